/- plan.all: all the rows of steps, as one iterator. -/
import Derived.Laws.StructEq
import Derived.Test.YtcoifdhdhglioaaGreatRpmErrsK2
namespace Go.Proofs.YtcoifdhdhglioaaGreat
set_option linter.all false
open Go.RowKit
section
theorem intCells_one (l : List Int) : ∀ u ∈ intCells l, u.oneCell' = true := by
 intro u hu
 simp only [intCells, List.mem_map] at hu
 obtain ⟨x, _, rfl⟩ := hu
 rfl
end
section
def HP.ex {α : Type} (f : α → HP) : HP := ⟨fun F w => ∃ a, (f a).sat F w, fun F w w' ⟨a, h⟩ hk => ⟨a, (f a).loc F w w' h hk⟩⟩
section
variable {N : Frm} {w0 : World} {e : Env} {R : List Piece} {H : List HP} {K : Act → World → Prop}
theorem XK.openEx (i : Nat) {α : Type} {f : α → HP} (hi : H[i]? = some (HP.ex f)) (h : ∀ a, XK N w0 K e R (H.set i (f a))) : XK N w0 K e R H := fun a w hr st => by
 obtain ⟨Z, F, hz, hrr, hs, hff, hdd⟩ := st.ex
 obtain ⟨x, hx⟩ := hs i _ hi
 have hlt : i < H.length := by
  rcases Nat.lt_or_ge i H.length with h | h
  ·exact h
  ·rw [List.getElem?_eq_none h] at hi; cases hi
 refine h x a w hr ⟨st.os, st.tape, st.output, st.size, Z, F, hz, hrr, fun j p hj => ?_, hff, hdd⟩
 rw [List.getElem?_set] at hj
 split at hj
 ·rename_i e; subst e
  first | (rw [if_pos hlt] at hj; cases hj) | cases hj
  exact hx
 ·exact hs j p hj
theorem XK.toEx (i : Nat) {α : Type} {f : α → HP} (x : α) (hi : H[i]? = some (f x)) (h : XK N w0 K e R (H.set i (HP.ex f))) : XK N w0 K e R H := fun a w hr st =>
 h a w hr (st.turn hi (Nat.le_refl _) rfl rfl rfl fun F hF hlt => ⟨F, ⟨x, hF⟩, fun b hb => ⟨.inl hb, hlt b hb⟩, fun _ _ _ => rfl⟩)
theorem XK.pair {p q : HP} (h : XK N w0 K e R (HP.many [p, q] :: H)) : XK N w0 K e R (p :: q :: H) := fun a w hr st => by
  obtain ⟨Z, F, hz, hrr, hs, hff, hdd⟩ := st.ex
  refine h a w hr ⟨st.os, st.tape, st.output, st.size, Z, fun j => match j with | 0 => fun b => F 0 b ∨ F 1 b | j + 1 => F (j + 2), hz, hrr, fun j r hj => ?_, fun j b hb => ?_, fun j k b hjk hj hk => ?_⟩
  · cases j with
    | zero =>
      simp at hj
      subst hj
      refine ⟨fun i b => i < 2 ∧ F i b, fun i r hi => ?_, fun i b hb => ?_, fun i k b hik h1 h2 => hdd i k b hik h1.2 h2.2⟩
      · have key : ∀ k, k < 2 → (fun b => k < 2 ∧ F k b) = F k := fun k hk => by funext b; simp [hk]
        match i, hi with
        | 0, hi => simp at hi; subst hi; show p.sat (fun b => 0 < 2 ∧ F 0 b) w; rw [key 0 (by omega)]; exact hs 0 _ rfl
        | 1, hi => simp at hi; subst hi; show q.sat (fun b => 1 < 2 ∧ F 1 b) w; rw [key 1 (by omega)]; exact hs 1 _ rfl
        | i + 2, hi => simp at hi
      · obtain ⟨hlt, hb⟩ := hb
        match i, hlt, hb with
        | 0, _, hb => exact .inl hb
        | 1, _, hb => exact .inr hb
    | succ j => exact hs (j + 2) r (by simpa using hj)
  · cases j with
    | zero => rcases hb with hb | hb <;> exact hff _ b hb
    | succ j => exact hff _ b hb
  · cases j with
    | zero => cases k with
      | zero => exact hjk rfl
      | succ k => rcases hj with hj | hj
                  · exact hdd 0 (k + 2) b (by omega) hj hk
                  · exact hdd 1 (k + 2) b (by omega) hj hk
    | succ j => cases k with
      | zero => rcases hk with hk | hk
                · exact hdd 0 (j + 2) b (by omega) hk hj
                · exact hdd 1 (j + 2) b (by omega) hk hj
      | succ k => exact hdd (j + 2) (k + 2) b (by omega) hj hk
end
end
section
def LessG (g : List (List Int)) : Prop := ∀ (k : Nat) (l : List Int), g[k]? = some l → ∀ u ∈ l, 0 ≤ u ∧ u < (k : Int)
theorem LessG.in {g : List (List Int)} (h : LessG g) : InG g := by
 intro l hl u hu
 obtain ⟨k, hk⟩ := List.getElem?_of_mem hl
 have := h k l hk u hu
 have := (List.getElem?_eq_some_iff.1 hk).1
 omega
theorem LessG.next {g : List (List Int)} (h : LessG g) {k : Nat} (hk : k < g.length) : nextG g (List.range k) = some k := by
 refine nextG_some hk (fun j hj => okN_met (by simpa using hj)) ?_
 unfold okN
 obtain ⟨l, hl⟩ : ∃ l, g[k]? = some l := ⟨_, List.getElem?_eq_getElem hk⟩
 rw [hl]
 simp only [Option.getD_some, Bool.and_eq_true, Bool.not_eq_true', List.all_eq_true]
 refine ⟨by simp, fun u hu => ?_⟩
 have := h k l hl u hu
 simp; omega
theorem LessG.order {g : List (List Int)} (h : LessG g) : ∀ (m k : Nat), k + m = g.length → orderG g m (List.range k) = some (List.range g.length)
 | 0, k, hk => by rw [orderG]; simp at hk; rw [hk]
 | m + 1, k, hk => by
  rw [orderG, h.next (by omega)]
  have := LessG.order h m (k + 1) (by omega)
  rw [List.range_succ] at this
  exact this
theorem LessG.orderE {g : List (List Int)} (h : LessG g) (hl : g.length ≤ 100) : orderE g = (0, List.range g.length) := by
 have h1 : badG g = false := badG_no fun k l hk j u hj => by
  have := h.in l (List.mem_of_getElem? hk) u (List.mem_of_getElem? hj)
  exact this
 have h2 : numbersG g = 0 := by unfold numbersG; rw [if_neg (by omega), h1]; rfl
 have h3 := h.order g.length 0 (by omega)
 unfold Go.Proofs.YtcoifdhdhglioaaGreat.orderE
 rw [if_neg (by simp [h2])]
 simp only [List.range_zero] at h3
 rw [h3]
end
section
theorem firstE_all {es : List Int} (h : ∀ e ∈ es, e = 0) : firstE es = 0 := firstE_none fun j hj => by rw [List.getElem?_eq_getElem hj, h _ (List.getElem_mem hj)]
theorem withinB_of {n lo hi : Int} (h1 : lo ≤ n) (h2 : n ≤ hi) : withinB n lo hi = true := by simp [withinB, h1, h2]
theorem whenE_of {b : Bool} {e : Int} (h : b = false) : whenE b e = 0 := by rw [h]; rfl
section
variable {s : Soc} (h : s.made)
include h
theorem made_clocks : LessG (clocksG s) := by
 intro k l hl u hu
 simp only [clocksG, List.getElem?_map, Option.map_eq_some_iff] at hl
 obtain ⟨c, hc, rfl⟩ := hl
 exact (h.clocks k c hc).1 u hu
theorem made_doms : LessG (domsG s) := by
 intro k l hl u hu
 simp only [domsG, List.getElem?_map, Option.map_eq_some_iff] at hl
 obtain ⟨d, hd, rfl⟩ := hl
 have := (h.domains k d hd).1
 split at hu
 ·cases hu
 ·rename_i hne
  simp at hu
  subst hu
  exact this.resolve_left hne
theorem made_needs : LessG (needsG s) := by
 intro k l hl u hu
 simp only [needsG, List.getElem?_map, Option.map_eq_some_iff] at hl
 obtain ⟨d, hd, rfl⟩ := hl
 obtain ⟨_, _, _, _, _, _, _, _, _, _, _, h1⟩ := h.devs k d hd
 exact h1 u hu
theorem made_small : s.small := by
 refine ⟨by have := h.nc; omega, by have := h.nd; omega, by have := h.nr; omega, by have := h.nv; omega, fun c hc => ?_, fun d hd => ?_⟩
 ·obtain ⟨k, hk⟩ := List.getElem?_of_mem hc
  rcases (h.clocks k c hk).2 with h1 | h1 | h1 | h1 | h1
  ·rw [h1.2.1]; simp
  all_goals (have := h1.2.1; omega)
 ·obtain ⟨k, hk⟩ := List.getElem?_of_mem hd
  obtain ⟨_, _, _, _, _, _, _, _, _, _, h1, _⟩ := h.devs k d hk
  omega
theorem made_orders : orderE (clocksG s) = (0, List.range s.clocks.length) ∧ orderE (domsG s) = (0, List.range s.domains.length) ∧ orderE (needsG s) = (0, List.range s.devs.length) := by
 refine ⟨?_, ?_, ?_⟩
 ·have := (made_clocks h).orderE (by simp [clocksG]; have := h.nc; omega)
  simpa [clocksG] using this
 ·have := (made_doms h).orderE (by simp [domsG]; have := h.nd; omega)
  simpa [domsG] using this
 ·have := (made_needs h).orderE (by simp [needsG]; have := h.nv; omega)
  simpa [needsG] using this
theorem made_clock {k : Nat} {c : Clk} (hc : s.clocks[k]? = some c) : clockE s.clocks.length c = 0 := by
 have hk := (List.getElem?_eq_some_iff.1 hc).1
 obtain ⟨h1, h2⟩ := h.clocks k c hc
 refine firstE_all fun e he => ?_
 simp only [List.mem_cons, List.not_mem_nil, or_false] at he
 rcases he with rfl | rfl | rfl
 ·refine whenE_of ?_
  rcases h2 with h2 | h2 | h2 | h2 | h2
  ·simp [shapeB, h2.1, h2.2.1]
  ·simp [shapeB, h2.1, h2.2.1]
  ·simp [shapeB, h2.1, h2.2.1]
  ·simp [shapeB, h2.1, h2.2.1]
  ·simp [shapeB, h2.1, h2.2.1, withinB]
 ·refine firstE_all fun e he => ?_
  simp only [List.mem_map] at he
  obtain ⟨f, hf, rfl⟩ := he
  have := h1 f hf
  exact whenE_of (by rw [withinB_of (by omega) (by omega)]; rfl)
 ·refine whenE_of ?_
  rcases h2 with h2 | h2 | h2 | h2 | h2
  ·obtain ⟨h3, _, h4, h5, _⟩ := h2
   simp [numbersB, h3]; omega
  ·obtain ⟨h3, _, _, h4, h5, h6, h7, h8, h9⟩ := h2
   simp [numbersB, h3, withinB]; omega
  ·obtain ⟨h3, _, _, _, h4, h5, _⟩ := h2
   simp [numbersB, h3, withinB]; omega
  ·simp [numbersB, h2.1]
  ·simp [numbersB, h2.1]
theorem made_domain {k : Nat} {d : Dom} (hd : s.domains[k]? = some d) : domainE s.domains.length d = 0 := by
 have hk := (List.getElem?_eq_some_iff.1 hd).1
 obtain ⟨h1, h2, h3⟩ := h.domains k d hd
 refine firstE_all fun e he => ?_
 simp only [List.mem_cons, List.not_mem_nil, or_false] at he
 rcases he with rfl | rfl
 ·refine whenE_of ?_
  rcases h1 with h1 | h1
  ·simp [h1]
  ·rw [withinB_of (by omega) (by omega)]; simp
 ·exact whenE_of (by rw [withinB_of (by omega) (by omega)]; rfl)
theorem made_device {k : Nat} {d : Dev} (hd : s.devs[k]? = some d) : deviceE s.clocks.length s.domains.length s.resets.length s.devs.length d = 0 ∧ manyE d = 0 := by
 have hk := (List.getElem?_eq_some_iff.1 hd).1
 obtain ⟨a1, a2, a3, a4, a5, a6, _, _, a7, _, a8, a9⟩ := h.devs k d hd
 refine ⟨firstE_all fun e he => ?_, ?_⟩
 ·simp only [List.mem_cons, List.not_mem_nil, or_false] at he
  rcases he with rfl | rfl | rfl | rfl
  ·exact whenE_of (by rw [withinB_of (by omega) (by omega)]; rfl)
  ·exact whenE_of (by rw [withinB_of (by omega) (by omega)]; rfl)
  ·exact whenE_of (by rw [withinB_of (by omega) (by omega)]; rfl)
  ·refine firstE_all fun e he => ?_
   simp only [List.mem_map] at he
   obtain ⟨f, hf, rfl⟩ := he
   have := a9 f hf
   exact whenE_of (by rw [withinB_of (by omega) (by omega)]; rfl)
 ·refine whenE_of ?_
  simp
  omega
theorem made_check : checkS s = 0 := by
 obtain ⟨o1, o2, o3⟩ := made_orders h
 refine firstE_all fun e he => ?_
 simp only [checkL, List.mem_cons, List.not_mem_nil, or_false] at he
 have h1 := h.nc
 have h2 := h.nd
 have h3 := h.nr
 have h4 := h.nv
 rcases he with rfl | rfl | rfl | rfl | rfl | rfl | rfl | rfl
 ·rw [fullE, if_neg (by omega)]
  refine firstE_all fun e he => ?_
  obtain ⟨d, hd, rfl⟩ := List.mem_map.1 he
  obtain ⟨k, hk⟩ := List.getElem?_of_mem hd
  exact (made_device h hk).2
 ·refine firstE_all fun e he => ?_
  obtain ⟨d, hd, rfl⟩ := List.mem_map.1 he
  obtain ⟨k, hk⟩ := List.getElem?_of_mem hd
  exact made_clock h hk
 ·rw [cycE, o1]; rfl
 ·refine firstE_all fun e he => ?_
  obtain ⟨d, hd, rfl⟩ := List.mem_map.1 he
  obtain ⟨k, hk⟩ := List.getElem?_of_mem hd
  exact made_domain h hk
 ·rw [cycE, o2]; rfl
 ·refine firstE_all fun e he => ?_
  obtain ⟨d, hd, rfl⟩ := List.mem_map.1 he
  have := h.resets d hd
  exact whenE_of (by rw [withinB_of (by omega) (by omega)]; rfl)
 ·refine firstE_all fun e he => ?_
  obtain ⟨d, hd, rfl⟩ := List.mem_map.1 he
  obtain ⟨k, hk⟩ := List.getElem?_of_mem hd
  exact (made_device h hk).1
 ·rw [cycE, o3]; rfl
end
structure Soc.okT (s : Soc) : Prop where
 clocks : Fits Clk.fit s.clocks
 devs : Fits (Dev.fit s.clocks.length s.domains.length s.resets.length) s.devs
 nc : s.clocks.length ≤ 9
 nd : s.domains.length ≤ 4
 nr : s.resets.length ≤ 3
 nv : s.devs.length ≤ 4
 chk : checkS s = 0
 small : s.small
theorem Soc.made.okT {s : Soc} (h : s.made) : s.okT := ⟨h.clocks, h.devs, h.nc.2, h.nd.2, h.nr.2, h.nv.2, made_check h, made_small h⟩
end
section
def flatFs (P : Program) : List Field → Nat → List Value → List Value → Bool
 | [], _, [], [] => true
 | f :: fs, i, x :: xs, y :: ys => f.name != "_" && f.offset == i && (match P.underlying f.type, x, y with
   | some (.int _), .int kx _, .int ky _ => decide (kx = ky)
   | some .bool, .bool _, .bool _ => true
   | _, _, _ => false) && flatFs P fs (i + 1) xs ys
 | _, _, _, _ => false
section
variable {P : Program} {w : World}
variable {N : Frm} {w0 : World} {e : Env} {R : List Piece} {H : List HP} {Q : Exit → Act → World → Prop} {ops : Array Oper} {rest : List Oper}
variable {d : Nat} {ty : TypeId} {pos : String} {aft : Array Edge}
def flatB (P : Program) (t : TypeId) (xs ys : List Value) : Bool := (match P.underlying t with
 | some (.struct fs) => flatFs P fs.toList 0 xs ys
 | _ => false) && !P.stoodInHeld t && !P.eqGuardType P.depth t
end
end
section
structure Wsh where
 d : List Bool
 c : List Bool
 l : List Bool
def WshR (p : Piece) (x : Wsh) (v : Value) : Prop := ∃ A1 k1 A2 k2 A3 k3, v = .agg #[.slice A1 x.d.length k1, .slice A2 x.c.length k2, .slice A3 x.l.length k3] ∧
 SlS p 1 A1 x.d.length (boolCells x.d) ∧ SlS p 1 A2 x.c.length (boolCells x.c) ∧ SlS p 1 A3 x.l.length (boolCells x.l)
theorem WshR.le {p q : Piece} {x : Wsh} {v : Value} (h : WshR p x v) (hl : p.Le q) : WshR q x v := by
 obtain ⟨A1, k1, A2, k2, A3, k3, h0, h1, h2, h3⟩ := h
 exact ⟨A1, k1, A2, k2, A3, k3, h0, h1.le hl, h2.le hl, h3.le hl⟩
def RtW (Rl : Value → World → World → Prop) (w : World) : Ending → World → Prop := fun y w' => (∃ v, y = .returned v ∧ Rl v w w') ∧ Below w.heap.size w w'
def sameB (a b : List Bool) : Bool := decide (a = b)
def Wsh.same (x y : Wsh) : Bool := sameB x.d y.d && sameB x.c y.c && sameB x.l y.l
end
section
def putB (l : List Bool) (id : Int) (b : Bool) : List Bool := l.set id.toNat b
theorem putB_len (l : List Bool) (id : Int) (b : Bool) : (putB l id b).length = l.length := by simp [putB]
structure Wsh.sm (x : Wsh) : Prop where
 d : x.d.length ≤ 1000000
 c : x.c.length ≤ 1000000
 l : x.l.length ≤ 1000000
theorem boolCells_set (l : List Bool) (k : Nat) (b : Bool) : (boolCells l).set k (.bool b) = boolCells (l.set k b) := by simp [boolCells, List.map_set]
theorem boolCells_len (l : List Bool) : (boolCells l).length = l.length := by simp [boolCells]
structure Stp.ok (p : Stp) : Prop where
 pr : -9223372036854775808 ≤ p.pr ∧ p.pr ≤ 9223372036854775807
 msg : -9223372036854775808 ≤ p.msg ∧ p.msg ≤ 9223372036854775807
 id : 0 ≤ p.id ∧ p.id < 4294967296
 v : 0 ≤ p.v ∧ p.v < 4294967296
end
section
structure SocP (p : Piece) (s : Soc) (A1 : Option Addr) (n1 : Nat) (A2 : Option Addr) (n2 : Nat) (A3 : Option Addr) (n3 : Nat) (A4 : Option Addr) (n4 : Nat) : Prop where
 clk : RsR (slq p) (ClkR (slq p)) 64 6 A1 n1 s.clocks
 dom : RsR (slq p) DomR 49 3 A2 n2 s.domains
 rst : RsR (slq p) RstR 66 1 A3 n3 s.resets
 dev : RsR (slq p) (DevR (slq p)) 71 6 A4 n4 s.devs
section
variable {p q : Piece} {w : World} {s : Soc} {A1 A2 A3 A4 : Option Addr} {n1 n2 n3 n4 : Nat}
theorem SocP.le (h : SocP p s A1 n1 A2 n2 A3 n3 A4 n4) (hl : p.Le q) : SocP q s A1 n1 A2 n2 A3 n3 A4 n4 :=
 ⟨h.clk.mono (slq_le hl) (fun _ _ => ClkR.mono (slq_le hl)), h.dom.mono (slq_le hl) (fun _ _ h => h), h.rst.mono (slq_le hl) (fun _ _ h => h), h.dev.mono (slq_le hl) (fun _ _ => DevR.mono (slq_le hl))⟩
theorem SocP.W (h : SocP p s A1 n1 A2 n2 A3 n3 A4 n4) (hl : p.Le (all w)) (hs : s.small) : SocW w s A1 n1 A2 n2 A3 n3 A4 n4 := ⟨(h.le hl).clk, (h.le hl).dom, (h.le hl).rst, (h.le hl).dev, hs⟩
theorem SocP.len (h : SocP p s A1 n1 A2 n2 A3 n3 A4 n4) : n1 = s.clocks.length ∧ n2 = s.domains.length ∧ n3 = s.resets.length ∧ n4 = s.devs.length := by
 obtain ⟨⟨_, _, h1, _⟩, ⟨_, _, h2, _⟩, ⟨_, _, h3, _⟩, ⟨_, _, h4, _⟩⟩ := h
 exact ⟨h1, h2, h3, h4⟩
theorem SocR.P {cs : Array Value} (h : SocR (slq p) s cs) : ∃ A1 n1 k1 A2 n2 k2 A3 n3 k3 A4 n4 k4, cs = #[.slice A1 n1 k1, .slice A2 n2 k2, .slice A3 n3 k3, .slice A4 n4 k4] ∧ SocP p s A1 n1 A2 n2 A3 n3 A4 n4 := by
 obtain ⟨A1, n1, k1, A2, n2, k2, A3, n3, k3, A4, n4, k4, h0, h1, h2, h3, h4⟩ := h
 exact ⟨A1, n1, k1, A2, n2, k2, A3, n3, k3, A4, n4, k4, h0, h1, h2, h3, h4⟩
end
end
section
theorem RsR.rowP {α : Type} {p : Piece} {R : α → List Value → Prop} {t : TypeId} {sz n : Nat} {A : Option Addr} {es : List α} (h : RsR (slq p) R t sz A n es) {k : Nat} {e : α} (hk : es[k]? = some e) :
  ∃ b off r, A = some ⟨b, off, none⟩ ∧ p.Z b ∧ r.length = sz ∧ R e r ∧ ∀ f u, r[f]? = some u → p.w.cell? ⟨b, off + k * sz + f, none⟩ = some u := by
 obtain ⟨rows, h1, h2, h3⟩ := h
 have hlt : k < n := by
  rw [h2]
  rcases Nat.lt_or_ge k es.length with h | h
  ·exact h
  ·rw [List.getElem?_eq_none h] at hk; cases hk
 obtain ⟨b, off, hA, hb, hc⟩ := SlS.at_ h3 hlt
 obtain ⟨r, h4, h5, h6⟩ := h1.get hk
 refine ⟨b, off, r, hA, hb, h4, h5, fun f u hu => hc f u ?_⟩
 have hf : f < sz := by
  rw [← h4]
  rcases Nat.lt_or_ge f r.length with h | h
  ·exact h
  ·rw [List.getElem?_eq_none h] at hu; cases hu
 rw [h6 f hf, hu]
theorem Stp.cells_len (p : Stp) : p.cells.length = 4 := rfl
theorem SlS.step {p : Piece} {A : Option Addr} {L : List Stp} (h : SlS p 4 A L.length (L.flatMap Stp.cells)) {k : Nat} {x : Stp} (hk : L[k]? = some x) :
  ∃ b off, A = some ⟨b, off, none⟩ ∧ p.Z b ∧ ∀ f u, x.cells[f]? = some u → p.w.cell? ⟨b, off + k * 4 + f, none⟩ = some u := by
 have hlt := (List.getElem?_eq_some_iff.1 hk).1
 obtain ⟨b, off, hA, hb, hc⟩ := SlS.at_ h hlt
 refine ⟨b, off, hA, hb, fun f u hu => hc f u ?_⟩
 have hf : f < 4 := by
  rw [← Stp.cells_len x]
  rcases Nat.lt_or_ge f x.cells.length with h | h
  ·exact h
  ·rw [List.getElem?_eq_none h] at hu; cases hu
 rw [flat_get Stp.cells 4 L (fun _ _ => rfl) k f x hk hf, hu]
end
section
structure Wsh.of (x : Wsh) (s : Soc) : Prop where
 d : x.d.length = s.domains.length
 c : x.c.length = s.clocks.length
 l : x.l.length = s.resets.length
end
section
structure AL where
 d : Nat
 t : TypeId
 cs : List Value
 val : Nat → Value
def envA (al : Nat → AL) (g : Nat → Nat) (ds : List Nat) (e : Env) : Env := ds.map (fun i => ((al i).d, (al i).val (g i))) ++ e
def hpA (al : Nat → AL) (g : Nat → Nat) (ds : List Nat) (H : List HP) : List HP := ds.map (fun i => HP.blk (g i) (al i).t (al i).cs) ++ H
def markA (ds : List Nat) (l : Array Bool) : Array Bool := ds.foldr (fun i a => a.setIfInBounds i true) l
def subsN : List Nat → List (List Nat)
 | [] => [[]]
 | i :: l => (subsN l).map (i :: ·) ++ subsN l
theorem subsN_filter (p : Nat → Bool) : ∀ l : List Nat, l.filter p ∈ subsN l
 | [] => by simp [subsN]
 | i :: l => by
  unfold subsN
  rw [List.filter_cons]
  split
  ·exact List.mem_append_left _ (List.mem_map_of_mem (subsN_filter p l))
  ·exact List.mem_append_right _ (subsN_filter p l)
def readyA (ops : Array Oper) (idx : List Nat) (ex : List (List Nat)) (listed : Array Bool) : Bool :=
 (subsN idx).all fun sub => ex.contains sub || (!(Region.ready .any ops (markA sub listed)).isEmpty && (Region.ready .any ops (markA sub listed)).all fun j => idx.contains j && !sub.contains j)
theorem markA_perm {l1 l2 : List Nat} (h : l1.Perm l2) (l : Array Bool) : markA l1 l = markA l2 l := by
 induction h with
 | nil => rfl
 | cons x _ ih => show (markA _ l).setIfInBounds x true = _; rw [ih]; rfl
 | swap x y s =>
  show ((markA s l).setIfInBounds x true).setIfInBounds y true = ((markA s l).setIfInBounds y true).setIfInBounds x true
  by_cases hxy : x = y
  ·rw [hxy]
  ·exact Array.setIfInBounds_comm _ _ hxy
 | trans _ _ h1 h2 => exact h1.trans h2
section
variable {P : Program} {N : Frm} {w0 w : World} {e : Env} {R R0 : List Piece} {H H0 : List HP} {Q : Exit → Act → World → Prop} {ops : Array Oper} {m fuel : Nat} {listed : Array Bool} {K : Act → World → Prop}
variable {al : Nat → AL} {g g' : Nat → Nat}
theorem get_cons (k : Nat) (v : Value) (e : Env) (t : Nat) : Env.get ((k, v) :: e) t = if k = t then some v else e.get t := by
 show (match Nat.beq k t with | true => some v | false => Env.get e t) = _
 by_cases h : k = t
 ·subst h; rw [if_pos rfl, Nat.beq_refl]
 ·rw [if_neg h]
  cases hb : Nat.beq k t with
  | true => exact absurd (Nat.eq_of_beq_eq_true hb) h
  | false => rfl
theorem envA_perm {l1 l2 : List Nat} (h : l1.Perm l2) (hn : (l1.map fun i => (al i).d).Nodup) (t : Nat) : (envA al g l1 e).get t = (envA al g l2 e).get t := by
 induction h with
 | nil => rfl
 | cons x _ ih =>
  show Env.get ((_, _) :: envA al g _ e) t = Env.get ((_, _) :: envA al g _ e) t
  rw [get_cons, get_cons, ih (List.nodup_cons.1 (show ((al x).d :: List.map (fun i => (al i).d) _).Nodup from hn)).2]
 | swap x y s =>
  show Env.get ((_, _) :: (_, _) :: envA al g s e) t = Env.get ((_, _) :: (_, _) :: envA al g s e) t
  have hne : (al y).d ≠ (al x).d := fun he => (List.nodup_cons.1 (show ((al y).d :: (al x).d :: List.map (fun i => (al i).d) s).Nodup from hn)).1 (by rw [he]; exact List.mem_cons_self)
  simp only [get_cons]
  by_cases h1 : (al x).d = t
  ·rw [if_pos h1, if_neg (fun h2 => hne (h2.trans h1.symm)), if_pos h1]
  ·rw [if_neg h1, if_neg h1]
 | trans h1 h2 i1 i2 => exact (i1 hn).trans (i2 ((h1.map _).nodup_iff.1 hn))
theorem hpA_perm {l1 l2 : List Nat} (h : l1.Perm l2) : ∀ pre : List HP, St w0 R (pre ++ hpA al g l1 H) w → St w0 R (pre ++ hpA al g l2 H) w := by
 induction h with
 | nil => exact fun _ h => h
 | cons x _ ih =>
  intro pre st
  have := ih (pre ++ [HP.blk (g x) (al x).t (al x).cs]) (by rw [List.append_assoc]; exact st)
  rw [List.append_assoc] at this
  exact this
 | swap x y s =>
  intro pre st
  refine st.weak (fun _ hp => hp) (fun i => if i = pre.length then pre.length + 1 else if i = pre.length + 1 then pre.length else i) (fun i j _ _ he => ?_) (fun i p hi => ?_)
  ·split at he <;> split at he <;> (try split at he) <;> (try split at he) <;> omega
  ·change (pre ++ HP.blk (g x) (al x).t (al x).cs :: HP.blk (g y) (al y).t (al y).cs :: hpA al g s H)[i]? = some p at hi
   show (pre ++ HP.blk (g y) (al y).t (al y).cs :: HP.blk (g x) (al x).t (al x).cs :: hpA al g s H)[_]? = some p
   rcases Nat.lt_or_ge i pre.length with h | h
   ·rw [if_neg (by omega), if_neg (by omega), List.getElem?_append_left h]
    rwa [List.getElem?_append_left h] at hi
   ·obtain ⟨k, rfl⟩ : ∃ k, i = pre.length + k := ⟨i - pre.length, by omega⟩
    rw [List.getElem?_append_right (by omega), Nat.add_sub_cancel_left] at hi
    match k, hi with
    | 0, hi =>
     rw [if_pos (by omega), List.getElem?_append_right (by omega), Nat.add_sub_cancel_left]
     exact hi
    | 1, hi =>
     rw [if_neg (by omega), if_pos rfl, List.getElem?_append_right (by omega), Nat.sub_self]
     exact hi
    | k + 2, hi =>
     rw [if_neg (by omega), if_neg (by omega), List.getElem?_append_right (by omega), Nat.add_sub_cancel_left]
     exact hi
 | trans _ _ i1 i2 => exact fun pre st => i2 pre (i1 pre st)
def Makes (P : Program) (N : Frm) (e : Env) (o : Oper) (x : AL) : Prop := ∀ a w, Rep N e a → (execOp a.eval o).run P w = .ok (.value (x.val w.heap.size)) (w.alloc (.cells x.cs.toArray x.t))
theorem makes_alloc {t ty : TypeId} {d : Nat} {pos : String} {aft : Array Edge} {cs : List Value} (ht : zeroB P t cs) : Makes P N e ⟨some d, .alloc t, ty, pos, aft, none⟩ ⟨d, t, cs, fun g => .pointer (some ⟨g, 0, none⟩)⟩ := fun a w hr => by
 obtain ⟨i, z, hi, hz, rfl⟩ := ht
 simp [execOp, Instr.alloc, zeroValue, typeInfo, hi, hz, newVar, newRow]
theorem makes_make (bytes : Nat) {x y : Operand} {t el ty : TypeId} {d n : Nat} {z : Value} {pos : String} {aft : Array Edge} {kd kd' : IntKind} (ht : P.underlying t = some (.slice el)) (hT : (P.info? el).map (fun i => (i.zero, i.size, i.bytes)) = some (some z, 1, bytes)) (hzc : z.cells = #[z]) (hx : e.ev x = some (.int kd (n : Int))) (hy : e.ev y = some (.int kd' (n : Int)))
  (hb : bytes * n ≤ 281474976710656) (hn : (n : Int) ≤ 9223372036854775807) : Makes P N e ⟨some d, .makeSlice t x y, ty, pos, aft, none⟩ ⟨d, el, List.replicate n z, fun g => .slice (some ⟨g, 0, none⟩) n n⟩ := fun a w hr => by
 obtain ⟨i, hi, he⟩ := Option.map_eq_some_iff.1 hT
 simp only [Prod.mk.injEq] at he
 obtain ⟨h1, h2, rfl⟩ := he
 have := run_make (P := P) w t el i z ht hi h1 kd kd' n n (by omega) (Int.le_refl _) (by rw [← Int.natCast_mul]; omega) hn
 have hm : madeCells z.cells (n * i.size) = (List.replicate n z).toArray := by
  rw [h2, Nat.mul_one, hzc]
  unfold madeCells
  apply Array.ext
  ·simp
  ·intro j h1 h2
   simp
   rw [Nat.mod_one]
   rfl
 simp only [Int.toNat_natCast, hm] at this
 simp only [execOp, hr.ev hx, hr.ev hy, Sem.run_bind, this, Result.andThen_ok, Sem.run_pure]
structure ALok (P : Program) (N : Frm) (ops : Array Oper) (e : Env) (x : AL) (i : Nat) : Prop where
 ok : ∃ o, ops[i]? = some o ∧ o.guard = none ∧ o.dst = some x.d ∧ Makes P N e o x
 lt : x.d < N.n
 new : e.get x.d = none
theorem ALok.of {o : Oper} {x : AL} {i : Nat} (h1 : ops[i]? = some o) (h2 : o.guard = none) (h3 : o.dst = some x.d) (h4 : Makes P N e o x) (h5 : x.d < N.n) (h6 : e.get x.d = none) : ALok P N ops e x i := ⟨⟨o, h1, h2, h3, h4⟩, h5, h6⟩
theorem envA_old {ds : List Nat} (hn : ∀ i ∈ ds, e.get (al i).d = none) {t : Nat} {v : Value} (h : e.get t = some v) : (envA al g ds e).get t = some v := by
 induction ds with
 | nil => exact h
 | cons i ds ih =>
  show Env.get ((_, _) :: envA al g ds e) t = some v
  rw [get_cons, if_neg (fun he => by have := hn i (by simp); rw [he, h] at this; cases this)]
  exact ih fun j hj => hn j (by simp [hj])
theorem Rep.envA_base {a : Act} {ds : List Nat} (hn : ∀ i ∈ ds, e.get (al i).d = none) (h : Rep N (envA al g ds e) a) : Rep N e a := ⟨h.size, h.defers, fun t v ht => h.get t v (envA_old hn ht)⟩
theorem St.unA {ds : List Nat} (h : St w0 R (hpA al g ds H) w) : St w0 R H w := h.weak (fun _ hp => hp) (fun i => i + ds.length) (fun i j _ _ he => by omega) (fun i p hi => by
 show (ds.map _ ++ H)[i + ds.length]? = some p
 rw [List.getElem?_append_right (by simp)]
 simpa using hi)
theorem XA.allocs (idx : List Nat) (ex : List (List Nat)) (al : Nat → AL) (hok : ∀ i ∈ idx, ALok P N ops e (al i) i) (hd : (idx.map fun i => (al i).d).Nodup) (hr : readyA ops idx ex listed = true) (hS : ∀ w, St w0 R H w → St w0 R0 H0 w)
  (k : ∀ sub ∈ subsN idx, ex.contains sub = true → ∀ g : Nat → Nat, XA P N w0 ops Q R0 H0 m (fuel + (idx.length - sub.length)) (markA sub listed) (envA al g sub e) R (hpA al g sub H)) : XA P N w0 ops Q R0 H0 m (fuel + idx.length) listed e R H := by
 have hni : idx.Nodup := (List.pairwise_map.1 hd).imp fun h e => h (by rw [e])
 have key : ∀ (n : Nat) (ds : List Nat) (g : Nat → Nat), ds.Nodup → (∀ i ∈ ds, i ∈ idx) → ds.length + n = idx.length → XA P N w0 ops Q R0 H0 m (fuel + n) (markA ds listed) (envA al g ds e) R (hpA al g ds H) := by
  intro n
  induction n with
  | zero =>
   intro ds g hn hin hl
   have hperm : (idx.filter fun i => ds.contains i).Perm ds := by
    rw [List.perm_iff_count]
    intro a
    rw [(hni.sublist List.filter_sublist).count, hn.count]
    by_cases ha : a ∈ ds
    ·rw [if_pos ha, if_pos (by simp [ha, hin a ha])]
    ·rw [if_neg ha, if_neg (by simp [ha])]
   have hlen := hperm.length_eq
   have heq : (idx.filter fun i => ds.contains i) = idx := List.filter_sublist.eq_of_length (by omega)
   have hr1 := List.all_eq_true.1 hr _ (subsN_filter (fun i => ds.contains i) idx)
   rw [Bool.or_eq_true] at hr1
   rcases hr1 with hc | hc
   ·have h := k _ (subsN_filter _ idx) hc g
    rw [markA_perm hperm, show fuel + (idx.length - (idx.filter fun i => ds.contains i).length) = fuel + 0 by omega] at h
    exact fun up a w hrp st => h up a w ⟨hrp.size, hrp.defers, fun t v ht => hrp.get t v (by rw [← envA_perm hperm (by rw [heq]; exact hd)]; exact ht)⟩ (hpA_perm hperm.symm [] st)
   ·exfalso
    rw [Bool.and_eq_true, List.all_eq_true] at hc
    obtain ⟨h1, h2⟩ := hc
    rw [heq] at h1 h2
    cases hrd : Region.ready .any ops (markA idx listed) with
    | nil => rw [hrd] at h1; cases h1
    | cons j js =>
     rw [hrd] at h2
     have := h2 j (by simp)
     simp at this
  | succ n ih =>
   intro ds g hn hin hl
   have hperm : (idx.filter fun i => ds.contains i).Perm ds := by
    rw [List.perm_iff_count]
    intro a
    rw [(hni.sublist List.filter_sublist).count, hn.count]
    by_cases ha : a ∈ ds
    ·rw [if_pos ha, if_pos (by simp [ha, hin a ha])]
    ·rw [if_neg ha, if_neg (by simp [ha])]
   have hlen := hperm.length_eq
   have hr1 := List.all_eq_true.1 hr _ (subsN_filter (fun i => ds.contains i) idx)
   rw [Bool.or_eq_true] at hr1
   rcases hr1 with hc | hc
   ·have h := k _ (subsN_filter _ idx) hc g
    rw [markA_perm hperm, show fuel + (idx.length - (idx.filter fun i => ds.contains i).length) = fuel + (n + 1) by omega] at h
    have hnd : ((idx.filter fun i => ds.contains i).map fun i => (al i).d).Nodup := hd.sublist (List.filter_sublist.map _)
    exact fun up a w hrp st => h up a w ⟨hrp.size, hrp.defers, fun t v ht => hrp.get t v (by rw [← envA_perm hperm hnd]; exact ht)⟩ (hpA_perm hperm.symm [] st)
   ·rw [Bool.and_eq_true, List.all_eq_true, markA_perm hperm] at hc
    obtain ⟨h1, h2⟩ := hc
    intro up a w hrp st
    show wpAnyX P ops Q (St w0 R0 H0) m ((fuel + n) + 1) (markA ds listed) a w
    refine ⟨(fun h => by rw [h] at h1; exact absurd h1 (by decide)), fun j hj => ?_⟩
    have hj2 := h2 j hj
    simp only [Bool.and_eq_true, Bool.not_eq_true', List.contains_eq_mem, decide_eq_true_eq, decide_eq_false_iff_not, List.mem_filter, not_and] at hj2
    have hjd : j ∉ ds := hj2.2 hj2.1
    obtain ⟨⟨o, ho, hog, hod, hmk⟩, hlt, hnew⟩ := hok j hj2.1
    have hrun := hmk a w (hrp.envA_base fun i hi => (hok i (hin i hi)).new)
    let g' : Nat → Nat := fun i => if i = j then w.heap.size else g i
    have hg1 : envA al g' (j :: ds) e = ((al j).d, (al j).val w.heap.size) :: envA al g ds e := by
     show ((al j).d, (al j).val (g' j)) :: (ds.map _ ++ e) = _
     rw [show g' j = w.heap.size from if_pos rfl]
     congr 1
     unfold envA
     congr 1
     refine List.map_congr_left fun i hi => ?_
     rw [show g' i = g i from if_neg (fun he : i = j => hjd (he ▸ hi))]
    have hg2 : hpA al g' (j :: ds) H = HP.blk w.heap.size (al j).t (al j).cs :: hpA al g ds H := by
     show HP.blk (g' j) _ _ :: (ds.map _ ++ H) = _
     rw [show g' j = w.heap.size from if_pos rfl]
     congr 1
     unfold hpA
     congr 1
     refine List.map_congr_left fun i hi => ?_
     rw [show g' i = g i from if_neg (fun he : i = j => hjd (he ▸ hi))]
    have st' : St w0 R (hpA al g' (j :: ds) H) (w.alloc (.cells (al j).cs.toArray (al j).t)) := by
     rw [hg2]
     exact st.new (alloc_below w _) (fresh_blk w _ _)
    have h := ih (j :: ds) g' (List.nodup_cons.2 ⟨hjd, hn⟩) (fun i hi => by
     rcases List.mem_cons.1 hi with rfl | hi
     ·exact hj2.1
     ·exact hin i hi) (by simp only [List.length_cons]; omega)
    rw [hg1] at h
    have hfin := h (up.set_ hj) (a.put (some (al j).d) ((al j).val w.heap.size)) _ (hrp.put hlt _) st'
    unfold wpOp
    simp only [ho]
    have hw : Region.wanted o (yielded ops a.tmps) = true := by simp [Region.wanted, hog]
    simp only [hw, if_true, Oper.wp, hrun, Oper.upon, hod]
    exact .inl ⟨fun _ => hS _ st'.unA, hfin⟩
 have := key idx.length [] (fun _ => 0) List.nodup_nil (fun i hi => by cases hi) (by simp)
 exact this
end
end
section
def chainN (s : Soc) : Nat → Nat → List Nat
 | 0, _ => []
 | k + 1, c => match s.clocks[c]? with
  | some x => c :: (match x.src with
   | [] => []
   | f :: _ => chainN s k f.toNat)
  | none => []
def chainL (s : Soc) (c : Nat) : List Nat := chainN s s.clocks.length c
theorem chainN_in (s : Soc) : ∀ (k c : Nat), ∀ i ∈ chainN s k c, i < s.clocks.length
 | 0, c, i, h => by simp [chainN] at h
 | k + 1, c, i, h => by
  unfold chainN at h
  cases hc : s.clocks[c]? with
  | none => rw [hc] at h; simp at h
  | some x =>
   rw [hc] at h
   dsimp only at h
   have hlt := (List.getElem?_eq_some_iff.1 hc).1
   cases hs : x.src with
   | nil => rw [hs] at h; simp at h; omega
   | cons f fs =>
    rw [hs] at h
    rcases List.mem_cons.1 h with rfl | h
    ·exact hlt
    ·exact chainN_in s k _ i h
theorem chainN_len (s : Soc) : ∀ (k c : Nat), (chainN s k c).length ≤ k
 | 0, c => by simp [chainN]
 | k + 1, c => by
  unfold chainN
  split
  ·rename_i x hx
   split
   ·simp
   ·rename_i f fs hs
    have := chainN_len s k f.toNat
    simp only [List.length_cons]
    omega
  ·simp
theorem chainN_cons {s : Soc} {k c : Nat} {x : Clk} (h : s.clocks[c]? = some x) : chainN s (k + 1) c = c :: (match x.src with
      | [] => []
      | f :: _ => chainN s k f.toNat) := by
  show (match s.clocks[c]? with | some x => _ | none => _) = _
  rw [h]
def upsN (s : Soc) : Nat → Nat → List Nat
 | 0, _ => []
 | k + 1, d => match s.domains[d]? with
  | some x => d :: (if x.above = -1 then [] else upsN s k x.above.toNat)
  | none => []
def ups (s : Soc) (d : Nat) : List Nat := upsN s (d + 1) d
def UpsR (s : Soc) : Int → List Nat → Prop
 | d, [] => d = -1
 | d, i :: r => d = (i : Int) ∧ ∃ x, s.domains[i]? = some x ∧ UpsR s x.above r
theorem upsN_R {s : Soc} (hm : s.made) : ∀ (k d : Nat), d < k → d < s.domains.length → UpsR s d (upsN s k d)
 | k + 1, d, hk, hd => by
  have hx : s.domains[d]? = some (s.domains[d]'hd) := List.getElem?_eq_getElem _
  have hf := (hm.domains d _ hx).1
  show UpsR s d (match s.domains[d]? with | some x => d :: (if x.above = -1 then [] else upsN s k x.above.toNat) | none => [])
  rw [hx]
  refine ⟨rfl, _, hx, ?_⟩
  by_cases h1 : (s.domains[d]'hd).above = -1
  ·rw [if_pos h1]; exact h1
  ·rw [if_neg h1]
   have h2 : ((s.domains[d]'hd).above.toNat : Int) = (s.domains[d]'hd).above := by omega
   have := upsN_R hm k (s.domains[d]'hd).above.toNat (by omega) (by omega)
   rwa [h2] at this
theorem ups_R {s : Soc} (hm : s.made) {d : Nat} (hd : d < s.domains.length) : UpsR s d (ups s d) := upsN_R hm _ _ (by omega) hd
theorem UpsR.up {s : Soc} : ∀ {l : List Nat} {d : Int}, UpsR s d l → ∀ i ∈ l, ∀ x, s.domains[i]? = some x → 0 ≤ x.above → x.above.toNat ∈ l
 | [], _, _, i, h, _, _, _ => by cases h
 | j :: l, _, ⟨_, y, hy, hr⟩, i, h, x, hx, h0 => by
  rcases List.mem_cons.1 h with rfl | h
  ·rw [hy] at hx
   cases hx
   cases l with
   | nil => have h2 : y.above = -1 := hr; omega
   | cons k l =>
    have h2 : y.above = (k : Int) := hr.1
    rw [h2]
    simp
  ·exact List.mem_cons_of_mem _ (hr.up i h x hx h0)
def putAll (ids : List Nat) (l : List Bool) : List Bool := ids.foldl (fun d (i : Nat) => putB d (i : Int) true) l
theorem putAll_len (ids : List Nat) (l : List Bool) : (putAll ids l).length = l.length := by
 unfold putAll
 induction ids generalizing l with
 | nil => rfl
 | cons i ids ih => rw [List.foldl_cons, ih, putB_len]
def swK (s : Soc) (i : Nat) : Bool := match s.clocks[i]? with
 | some c => decide (c.kind = 112 ∨ c.kind = 103)
 | none => false
def zeroW (s : Soc) : Wsh := ⟨List.replicate s.domains.length false, List.replicate s.clocks.length false, List.replicate s.resets.length false⟩
def wantStep (s : Soc) (w : Wsh) (x : Dev) : Wsh := ⟨putAll (ups s x.domain.toNat) w.d, putAll ((chainL s x.clock.toNat).filter (swK s)) w.c, putB w.l x.reset true⟩
def wantN (s : Soc) (act : List Bool) : Nat → Wsh
 | 0 => zeroW s
 | j + 1 => if hasB act j then (match s.devs[j]? with
  | some x => wantStep s (wantN s act j) x
  | none => wantN s act j) else wantN s act j
def wants (s : Soc) (act : List Bool) : Wsh := wantN s act s.devs.length
theorem wantN_of (s : Soc) (act : List Bool) : ∀ j, (wantN s act j).of s
 | 0 => ⟨by simp [wantN, zeroW], by simp [wantN, zeroW], by simp [wantN, zeroW]⟩
 | j + 1 => by
  have ih := wantN_of s act j
  unfold wantN
  split
  ·split
   ·exact ⟨by rw [wantStep, putAll_len]; exact ih.d, by rw [wantStep, putAll_len]; exact ih.c, by rw [wantStep, putB_len]; exact ih.l⟩
   ·exact ih
  ·exact ih
theorem wantN_next {s : Soc} {act : List Bool} {j : Nat} {x : Dev} (hx : s.devs[j]? = some x) (ha : hasB act j = true) : wantN s act (j + 1) = wantStep s (wantN s act j) x := by
 show (if hasB act j then _ else _) = _
 rw [if_pos ha, hx]
theorem wantN_skip {s : Soc} {act : List Bool} {j : Nat} (ha : hasB act j = false) : wantN s act (j + 1) = wantN s act j := by
 show (if hasB act j then _ else _) = _
 rw [if_neg (by rw [ha]; decide)]
theorem Wsh.of.sm {x : Wsh} {s : Soc} (h : x.of s) (hm : s.made) : x.sm := by
 have h1 := hm.nc; have h2 := hm.nd; have h3 := hm.nr
 exact ⟨by rw [h.d]; omega, by rw [h.c]; omega, by rw [h.l]; omega⟩
end
section
structure Soc.okH (s : Soc) : Prop where
 t : s.okT
 domains : Fits Dom.fit s.domains
 resets : ∀ r ∈ s.resets, 0 ≤ r ∧ r ≤ 3
theorem Soc.made.okH {s : Soc} (h : s.made) : s.okH := ⟨h.okT, h.domains, h.resets⟩
structure CkS where
 on : Bool
 left : Int
def ck0 (c : Clk) : CkS := ⟨false, if c.kind = 112 then c.lock else 0⟩
def byF (c : Clk) : Int := if c.kind = 100 then c.div else 0
def inB (n : Nat) (i : Int) : Bool := decide (0 ≤ i ∧ i < (n : Int))
structure CkOk (s : Soc) (st : List CkS) : Prop where
 len : st.length = s.clocks.length
 left : ∀ x ∈ st, 0 ≤ x.left ∧ x.left ≤ 3
structure DmS where
 phase : Int
 left : Int
 kept : Bool
 keep : Bool
def dm0 : DmS := ⟨48, 0, false, false⟩
structure DmOk (s : Soc) (st : List DmS) : Prop where
 len : st.length = s.domains.length
 left : ∀ x ∈ st, 0 ≤ x.left ∧ x.left ≤ 3
 phase : ∀ x ∈ st, 0 ≤ x.phase ∧ x.phase < 256
structure LnS where
 left : Int
 held : Bool
 wanted : Bool
def ln0 : LnS := ⟨0, true, false⟩
structure LnOk (s : Soc) (st : List LnS) : Prop where
 len : st.length = s.resets.length
 left : ∀ x ∈ st, 0 ≤ x.left ∧ x.left ≤ 3
structure FlS where
 now : List Int
 saved : List Int
 kept : Bool
def fl0 (d : Dev) : FlS := ⟨d.regs.map (·.reset), d.regs.map fun _ => 0, false⟩
def clearF (d : Dev) (x : FlS) : FlS := ⟨d.regs.map (·.reset), x.saved, false⟩
structure FlOk (d : Dev) (x : FlS) : Prop where
 now : x.now.length = d.regs.length
 saved : x.saved.length = d.regs.length
 u : (∀ v ∈ x.now, 0 ≤ v ∧ v < 4294967296) ∧ ∀ v ∈ x.saved, 0 ≤ v ∧ v < 4294967296
structure QtS where
 at_ : Int
 denied : Int
def qt0 : QtS := ⟨0, 0⟩
def QtOk (x : QtS) : Prop := 0 ≤ x.at_ ∧ x.at_ ≤ 3
end
section
section
variable {P : Program} {w : World} {t kt et : TypeId} {r : Nat} {l : List (Int × Value)}
variable {P : Program} {N : Frm} {w0 w : World} {e : Env} {R : List Piece} {H : List HP} {Q : Exit → Act → World → Prop} {ops : Array Oper} {rest : List Oper}
variable {d : Nat} {ty : TypeId} {pos : String} {aft : Array Edge}
theorem xk_callE (i : Nat) {dst : Option Nat} {e' : Env} {f : FuncId} {x : Operand} {args : List Operand} {fi ca vs : List Value} {tys : Array TypeId} {p : HP} {v : Value} (q : HP) (hf : callB P f = true) (hx : e.ev x = some (.func (.func f) fi.toArray ca.toArray)) (ha : e.evs args = some vs) (hi : H[i]? = some p)
  (hd : match dst with | some d => d < N.n ∧ e' = (d, v) :: e | none => e' = e)
  (hc : ∀ w F, St w0 R H w → p.sat F w → (∀ b, F b → b < w.heap.size) → (∀ q ∈ R, q.Le ⟨w, fun b => b < w.heap.size ∧ ¬ F b⟩) → Calls P f (fi ++ vs ++ ca).toArray w fun y w' => y = .returned v ∧ ∃ F', q.sat F' w' ∧ Turns w w' F F')
  (k : XK N w0 (wpList P ops Q rest) e' R (H.set i q)) : XK N w0 (wpList P ops Q (⟨dst, .call { callee := .value x, args := args.toArray, argTypes := tys }, ty, pos, aft, none⟩ :: rest)) e R H := fun a w hr st => wpList_plain rfl fun K hK => by
 unfold callB at hf
 cases hq : P.funcs[f]? with
 | none => simp [hq] at hf
 | some fn =>
  simp [hq] at hf
  obtain ⟨hf1, hf2⟩ := hf
  have hrun : (execOp a.eval (⟨dst, .call { callee := .value x, args := args.toArray, argTypes := tys }, ty, pos, aft, none⟩ : Oper)).run P w = .ok (.enter f (fi ++ vs ++ ca).toArray) w := by
   cases hb : fn.body with
   | none => simp [hb] at hf2
   | some c => simp [execOp, resolve, hr.ev hx, Deferred.ofValue, invoke, callFunc, hq, hf1, hb, hr.evs ha]
  obtain ⟨Z, F, hz, hrr, hs, hff, hdd⟩ := st.ex
  unfold Oper.wp
  rw [hrun]
  refine (hc w (F i) st (hs i p hi) (fun b hb => (hff i b hb).2) (fun q hqR b hb => ⟨⟨hz b (hrr q hqR b hb).1, fun hfb => (hff i b hfb).1 (hrr q hqR b hb).1⟩, (hrr q hqR b hb).2⟩)).mono fun y w' ⟨hy, F', hq', ht⟩ => ?_
  subst hy
  have st' : St w0 R (H.set i q) w' := by
   have hlt : i < H.length := by
    rcases Nat.lt_or_ge i H.length with h | h
    ·exact h
    ·rw [List.getElem?_eq_none h] at hi; cases hi
   refine ⟨ht.os.trans st.os, ht.tape.trans st.tape, ht.output.trans st.output, Nat.le_trans st.size ht.size, Z, fun j => if j = i then F' else F j, fun b h => Nat.lt_of_lt_of_le (hz b h) ht.size, fun p hp b h => ?_, fun j r hj => ?_, fun j b h => ?_, fun j k b hjk h => ?_⟩
   ·exact ⟨(hrr p hp b h).1, (ht.old b (hz b (hrr p hp b h).1) (fun hfb => (hff i b hfb).1 (hrr p hp b h).1)).trans (hrr p hp b h).2⟩
   ·rw [List.getElem?_set] at hj
    split at hj
    ·rename_i e; subst e
     first | (rw [if_pos hlt] at hj; cases hj) | cases hj
     simpa using hq'
    ·rename_i e
     simp only [if_neg (Ne.symm e)]
     exact r.loc _ _ _ (hs j r hj) (fun b hb => ht.old b (hff j b hb).2 (hdd j i b (Ne.symm e) hb))
   ·dsimp only at h
    split at h
    ·refine ⟨fun hzb => ?_, (ht.new b h).2⟩
     rcases (ht.new b h).1 with h | h
     ·exact (hff i b h).1 hzb
     ·have := hz b hzb; omega
    ·exact ⟨(hff j b h).1, Nat.lt_of_lt_of_le (hff j b h).2 ht.size⟩
   ·dsimp only at h ⊢
    split at h <;> split
    ·rename_i h1 h2; omega
    ·rename_i e1 e2
     intro hk
     rcases (ht.new b h).1 with h | h
     ·exact hdd i k b (by omega) h hk
     ·have := (hff k b hk).2; omega
    ·rename_i e1 e2
     intro hk
     rcases (ht.new b hk).1 with hk | hk
     ·exact hdd j i b (by omega) h hk
     ·have := (hff j b h).2; omega
    ·exact hdd j k b hjk h
  cases dst with
  | none => dsimp only at hd; subst hd; exact hK _ _ (k _ _ hr st')
  | some d => dsimp only at hd; obtain ⟨hd, rfl⟩ := hd; exact hK _ _ (k _ _ (hr.put hd v) st')
end
def HP.pure (p : Prop) : HP := ⟨fun _ _ => p, fun _ _ _ h _ => h⟩
section
variable {P : Program} {nn : Nat} {w0 : World} {e e0 : Env} {R R0 : List Piece} {H H0 : List HP} {Q : Exit → Act → World → Prop} {r : Option Nat} {L : List Nat} {K : Act → World → Prop}
theorem XC.cutB {x y : Code} (u : Nat) (p : Prop) [Decidable p] (h : XK ⟨nn, []⟩ w0 (KC r L P x (Exit.then (fun a' w' => ∃ b, a' = mk L b ∧ Rep ⟨nn, []⟩ ((u, .bool (decide p)) :: e) b ∧ St w0 R H w') Q)) e R H)
  (hy : XK ⟨nn, []⟩ w0 (KC r L P y Q) ((u, .bool (decide p)) :: e) R H) : XK ⟨nn, []⟩ w0 (KC r L P (Code.seq x y) Q) e R H := fun a w hr st => by
 refine wpIn_seq (wpIn_mono (h a w hr st) fun x a' w' hq => ?_)
 cases x with
 | normal =>
  obtain ⟨b, rfl, h1, h2⟩ := hq
  exact hy b w' h1 h2
 | _ => exact hq
theorem XC.meetB {u : Nat} {p : Prop} [Decidable p] (hs : e0.Sub e) (hu : e.get u = some (.bool (decide p))) : XK ⟨nn, []⟩ w0 (KQ L (Exit.then (fun a' w' => ∃ b, a' = mk L b ∧ Rep ⟨nn, []⟩ ((u, .bool (decide p)) :: e0) b ∧ St w0 R H w') Q) .normal) e R H := fun a _ hr st => ⟨a, rfl, hr.sub_cons hs hu, st⟩
end
end
section
section
variable {P : Program} {N : Frm} {w0 : World} {K : Act → World → Prop} {e : Env} {R : List Piece} {H H' : List HP} {Q : Exit → Act → World → Prop} {ops : Array Oper} {rest : List Oper}
variable {d : Nat} {ty : TypeId} {pos : String} {aft : Array Edge}
def dfd (f : FuncId) (fi ca : List Value) : Deferred := { target := .fn (.func f) ca.toArray, args := fi.toArray }
theorem xk_defer {x : Operand} {tys : Array TypeId} {f : FuncId} {fi ca : List Value} (hx : e.ev x = some (.func (.func f) fi.toArray ca.toArray)) (k : XK ⟨N.n, dfd f fi ca :: N.D⟩ w0 (wpList P ops Q rest) e R H) :
  XK N w0 (wpList P ops Q (⟨none, .defer { callee := .value x, args := #[], argTypes := tys }, ty, pos, aft, none⟩ :: rest)) e R H := fun a w hr st => wpList_plain rfl fun K hK => by
 have hrun : (execOp a.eval (⟨none, .defer { callee := .value x, args := #[], argTypes := tys }, ty, pos, aft, none⟩ : Oper)).run P w = .ok (.defer (dfd f fi ca)) w := by
  simp [execOp, resolve, hr.ev hx, Deferred.ofValue, dfd]
 unfold Oper.wp
 rw [hrun]
 exact hK _ _ (k { a with defers := dfd f fi ca :: a.defers } w ⟨hr.size, by show _ :: _ = _ :: _; rw [hr.defers], hr.get⟩ st)
theorem invoke_dfd {f : FuncId} {fi ca : List Value} (hf : callB P f = true) (w : World) : (invoke (.fn (.func f) ca.toArray) fi.toArray).run P w = .ok (.enter f (fi ++ ca).toArray) w := by
 unfold callB at hf
 cases hq : P.funcs[f]? with
 | none => simp [hq] at hf
 | some fn =>
  simp [hq] at hf
  obtain ⟨hf1, hf2⟩ := hf
  cases hb : fn.body with
  | none => simp [hb] at hf2
  | some c => simp [invoke, callFunc, hq, hf1, hb]
theorem XK.leaveR {nn : Nat} {f : FuncId} {fi ca : List Value} {fn : Func} {Post : Ending → World → Prop} (hf : callB P f = true)
  (hcl : ∀ w, St w0 R H w → CallsD P f (fi ++ ca).toArray .returning w fun y u' w' => (∃ v, y = .returned v) ∧ u' = .returning ∧ St w0 R H' w')
  (hres : ∀ a w, Rep ⟨nn, [dfd f fi ca]⟩ e a → St w0 R H' w → ∃ v, (results fn a.tmps).run P w = .ok v w ∧ Post (.returned v) w) :
  XK ⟨nn, [dfd f fi ca]⟩ w0 (bodyPostD P fn Post .ret) e R H := fun a w hr st => by
 show Leaves P fn a.tmps Post a.defers .returning w
 rw [hr.defers]
 refine leaves_cons (by simp) (invoke_dfd hf w) ((hcl w st).mono ?_)
 rintro y u' w' ⟨⟨v, rfl⟩, rfl, st'⟩
 obtain ⟨v', h1, h2⟩ := hres a w' hr st'
 exact ⟨v', h1, h2⟩
end
end
section
def HP.pic (Φ : Piece → Prop) (hm : ∀ p q : Piece, p.Le q → Φ p → Φ q) : HP := ⟨fun F w => Φ ⟨w, F⟩, fun F w w' h hk => hm ⟨w, F⟩ ⟨w', F⟩ (fun b hb => ⟨hb, hk b hb⟩) h⟩
section
variable {P : Program} {N : Frm} {w0 w : World} {K : Act → World → Prop} {e : Env} {R : List Piece} {H H' : List HP} {Q : Exit → Act → World → Prop} {ops : Array Oper} {rest : List Oper}
variable {d : Nat} {ty : TypeId} {pos : String} {aft : Array Edge}
theorem hlt_of {α : Type} {H : List α} {i : Nat} {p : α} (hi : H[i]? = some p) : i < H.length := (List.getElem?_eq_some_iff.1 hi).1
theorem St.chunk (st : St w0 R H w) {i : Nat} {p : HP} (hi : H[i]? = some p) : ∃ F, p.sat F w ∧ (∀ b, F b → b < w.heap.size) ∧ (∀ q ∈ R, q.Le ⟨w, fun b => b < w.heap.size ∧ ¬ F b⟩) ∧ ∀ w' F' q, q.sat F' w' → Turns w w' F F' → St w0 R (H.set i q) w' := by
 obtain ⟨Z, F, hz, hrr, hs, hff, hdd⟩ := st.ex
 refine ⟨F i, hs i p hi, (fun b hb => (hff i b hb).2), (fun q hqR b hb => ⟨⟨hz b (hrr q hqR b hb).1, fun hfb => (hff i b hfb).1 (hrr q hqR b hb).1⟩, (hrr q hqR b hb).2⟩), fun w' F' q hq' ht => ?_⟩
 have hlt := hlt_of hi
 refine ⟨ht.os.trans st.os, ht.tape.trans st.tape, ht.output.trans st.output, Nat.le_trans st.size ht.size, Z, fun j => if j = i then F' else F j, fun b h => Nat.lt_of_lt_of_le (hz b h) ht.size, fun p hp b h => ?_, fun j r hj => ?_, fun j b h => ?_, fun j k b hjk h => ?_⟩
 ·exact ⟨(hrr p hp b h).1, (ht.old b (hz b (hrr p hp b h).1) (fun hfb => (hff i b hfb).1 (hrr p hp b h).1)).trans (hrr p hp b h).2⟩
 ·rw [List.getElem?_set] at hj
  split at hj
  ·rename_i e; subst e
   first | (rw [if_pos hlt] at hj; cases hj) | cases hj
   simpa using hq'
  ·rename_i e
   simp only [if_neg (Ne.symm e)]
   exact r.loc _ _ _ (hs j r hj) (fun b hb => ht.old b (hff j b hb).2 (hdd j i b (Ne.symm e) hb))
 ·dsimp only at h
  split at h
  ·refine ⟨fun hzb => ?_, (ht.new b h).2⟩
   rcases (ht.new b h).1 with h | h
   ·exact (hff i b h).1 hzb
   ·have := hz b hzb; omega
  ·exact ⟨(hff j b h).1, Nat.lt_of_lt_of_le (hff j b h).2 ht.size⟩
 ·dsimp only at h ⊢
  split at h <;> split
  ·rename_i h1 h2; omega
  ·rename_i e1 e2
   intro hk
   rcases (ht.new b h).1 with h | h
   ·exact hdd i k b (by omega) h hk
   ·have := (hff k b hk).2; omega
  ·rename_i e1 e2
   intro hk
   rcases (ht.new b hk).1 with hk | hk
   ·exact hdd j i b (by omega) h hk
   ·have := (hff j b h).2; omega
  ·exact hdd j k b hjk h
theorem XK.reuse (i : Nat) {p q : HP} (hi : H[i]? = some p) (hq : ∀ F w, p.sat F w → q.sat F w) (h : XK N w0 K e R (H.set i q)) : XK N w0 K e R H := fun a w hr st => by
 obtain ⟨F, hp, hlt, _, hk⟩ := st.chunk hi
 exact h a w hr (hk w F q (hq F w hp) ⟨rfl, rfl, rfl, Nat.le_refl _, fun b hb => ⟨.inl hb, hlt b hb⟩, fun _ _ _ => rfl⟩)
theorem XK.drop (i : Nat) {p : HP} (hi : H[i]? = some p) (h : XK N w0 K e R (H.set i HP.emp)) : XK N w0 K e R H := XK.reuse i hi (fun _ _ _ => trivial) h
theorem XK.ownPic (i : Nat) {el : TypeId} {sz n c : Nat} {A : Option Addr} {xs : List Value} {Φ : Piece → Prop} {hm : ∀ p q : Piece, p.Le q → Φ p → Φ q} (hi : H[i]? = some (HP.own el sz (.slice A n c) n xs)) (hq : ∀ p, SlS p sz A n xs → Φ p) (h : XK N w0 K e R (H.set i (HP.pic Φ hm))) : XK N w0 K e R H :=
 XK.reuse i hi (fun F w hs => hq _ (SlS.own (q := ⟨w, F⟩) ⟨F, hs, fun _ h => h⟩)) h
theorem XK.joinPic {Φ Ψ X : Piece → Prop} {h1 : ∀ p q : Piece, p.Le q → Φ p → Φ q} {h2 : ∀ p q : Piece, p.Le q → Ψ p → Ψ q} {h3 : ∀ p q : Piece, p.Le q → X p → X q} (hX : ∀ p, Φ p → Ψ p → X p) (h : XK N w0 K e R (HP.pic X h3 :: H)) : XK N w0 K e R (HP.pic Φ h1 :: HP.pic Ψ h2 :: H) := fun a w hr st => by
  obtain ⟨Z, F, hz, hrr, hs, hff, hdd⟩ := st.ex
  refine h a w hr ⟨st.os, st.tape, st.output, st.size, Z, fun j => match j with | 0 => fun b => F 0 b ∨ F 1 b | j + 1 => F (j + 2), hz, hrr, fun j r hj => ?_, fun j b hb => ?_, fun j k b hjk hj hk => ?_⟩
  · cases j with
    | zero =>
      simp at hj
      subst hj
      exact hX _ (h1 ⟨w, F 0⟩ _ (fun b hb => ⟨.inl hb, rfl⟩) (hs 0 _ rfl)) (h2 ⟨w, F 1⟩ _ (fun b hb => ⟨.inr hb, rfl⟩) (hs 1 _ rfl))
    | succ j => exact hs (j + 2) r (by simpa using hj)
  · cases j with
    | zero => rcases hb with hb | hb <;> exact hff _ b hb
    | succ j => exact hff _ b hb
  · cases j with
    | zero => cases k with
      | zero => exact hjk rfl
      | succ k => rcases hj with hj | hj
                  · exact hdd 0 (k + 2) b (by omega) hj hk
                  · exact hdd 1 (k + 2) b (by omega) hj hk
    | succ j => cases k with
      | zero => rcases hk with hk | hk
                · exact hdd 0 (j + 2) b (by omega) hk hj
                · exact hdd 1 (j + 2) b (by omega) hk hj
      | succ k => exact hdd (j + 2) (k + 2) b (by omega) hj hk
theorem XK.ownP {q : Piece} {Φ : Piece → Prop} {hm : ∀ p q : Piece, p.Le q → Φ p → Φ q} (hf : Fresh w0 q) (hR : ∀ p ∈ R, ∀ b, p.Z b → b < w0.heap.size) (hΦ : Φ q) (h : XK N w0 K e R (HP.pic Φ hm :: H)) : XK N w0 K e (q :: R) H := fun a w hr st => by
 obtain ⟨Z, F, hz, hrr, hs, hff, hdd⟩ := st.ex
 have hq := hrr q (by simp)
 refine h a w hr ⟨st.os, st.tape, st.output, st.size, fun b => Z b ∧ ¬ q.Z b, fun j => match j with | 0 => q.Z | j + 1 => F j, fun b hb => hz b hb.1, fun p hp b hb => ?_, fun j r hj => ?_, fun j b hb => ?_, fun j k b hjk hj hk => ?_⟩
 ·refine ⟨⟨(hrr p (by simp [hp]) b hb).1, fun hqb => ?_⟩, (hrr p (by simp [hp]) b hb).2⟩
  have h1 := hR p hp b hb
  have h2 := hf b hqb
  omega
 ·cases j with
  | zero =>
   simp at hj
   subst hj
   exact hm q _ (fun b hb => ⟨hb, (hq b hb).2⟩) hΦ
  | succ j => exact hs j r (by simpa using hj)
 ·cases j with
  | zero => exact ⟨fun hh => hh.2 hb, hz b (hq b hb).1⟩
  | succ j => exact ⟨fun hh => (hff j b hb).1 hh.1, (hff j b hb).2⟩
 ·cases j with
  | zero => cases k with
   | zero => exact hjk rfl
   | succ k => exact (hff k b hk).1 (hq b hj).1
  | succ j => cases k with
   | zero => exact (hff j b hj).1 (hq b hk).1
   | succ k => exact hdd j k b (by omega) hj hk
end
end
section
theorem get_some {α : Type} {l : List α} {i : Nat} (h : i < l.length) : ∃ x, l[i]? = some x := ⟨l[i], List.getElem?_eq_getElem h⟩
theorem Sub.set {cs r : List Value} {o : Nat} (h : Sub cs o r) (k : Nat) (v : Value) (hk : k < r.length) (hl : o + k < cs.length) : Sub (cs.set (o + k) v) o (r.set k v) := fun j hj => by
 rw [List.length_set] at hj
 rw [List.getElem?_set, List.getElem?_set]
 by_cases he : k = j
 ·subst he; simp [hk, hl]
 ·rw [if_neg (by omega), if_neg he]; exact h j hj
def Upd (cs cs' : List Value) (o m : Nat) : Prop := cs'.length = cs.length ∧ ∀ j, (j < o ∨ o + m ≤ j) → cs'[j]? = cs[j]?
theorem Upd.refl (cs : List Value) (o m : Nat) : Upd cs cs o m := ⟨rfl, fun _ _ => rfl⟩
theorem Upd.set {cs cs' : List Value} {o m : Nat} (h : Upd cs cs' o m) (k : Nat) (v : Value) (hk : k < m) : Upd cs (cs'.set (o + k) v) o m :=
 ⟨by simpa using h.1, fun j hj => by rw [List.getElem?_set, if_neg (by omega)]; exact h.2 j hj⟩
theorem flat_at {sz : Nat} (rows : List (List Value)) (hl : ∀ r ∈ rows, r.length = sz) (k f : Nat) (r : List Value) (hk : rows[k]? = some r) (hf : f < sz) : rows.flatten[k * sz + f]? = r[f]? := by
 have := flat_get (fun x => x) sz rows hl k f r hk hf
 rwa [List.flatMap_id'] at this
theorem rows_len {sz : Nat} : ∀ (rows : List (List Value)), (∀ r ∈ rows, r.length = sz) → rows.flatten.length = rows.length * sz
 | [], _ => by simp
 | r :: rs, h => by rw [List.flatten_cons, List.length_append, rows_len rs (fun x hx => h x (by simp [hx])), h r (by simp), List.length_cons, Nat.succ_mul, Nat.add_comm]
theorem flat_upd {sz n i : Nat} {cs cs' r' : List Value} {rows : List (List Value)} (hc : cs.take (n * sz) = rows.flatten) (hn : rows.length = n) (hr : ∀ r ∈ rows, r.length = sz) (hi : i < n) (hl : n * sz ≤ cs.length) (hr' : r'.length = sz) (hs : Sub cs' (i * sz) r') (hu : Upd cs cs' (i * sz) sz) : cs'.take (n * sz) = (rows.set i r').flatten := by
 have hrs : ∀ r ∈ rows.set i r', r.length = sz := fun r hrm => by
  rcases List.mem_or_eq_of_mem_set hrm with h | h
  ·exact hr r h
  ·rw [h]; exact hr'
 refine List.ext_getElem? fun j => ?_
 rcases Nat.lt_or_ge j (n * sz) with hj | hj
 ·have hpos : 0 < sz := by
   rcases Nat.eq_zero_or_pos sz with h0 | h0
   ·rw [h0, Nat.mul_zero] at hj; omega
   ·exact h0
  have hdm : j / sz * sz + j % sz = j := by rw [Nat.mul_comm]; exact Nat.div_add_mod j sz
  have hmod : j % sz < sz := Nat.mod_lt _ hpos
  have hq : j / sz < n := Nat.div_lt_of_lt_mul (by rw [Nat.mul_comm]; exact hj)
  have hlen := hu.1
  rw [List.getElem?_take_of_lt hj]
  by_cases he : j / sz = i
  ·have h1 : (rows.set i r')[j / sz]? = some r' := by rw [he, List.getElem?_set_self (by omega)]
   have h2 := flat_at (rows.set i r') hrs (j / sz) (j % sz) r' h1 hmod
   rw [hdm] at h2
   rw [h2]
   have h3 := hs (j % sz) (by omega)
   rw [← he, hdm] at h3
   exact h3
  ·obtain ⟨r, hrq⟩ := get_some (l := rows) (i := j / sz) (by omega)
   have h1 : (rows.set i r')[j / sz]? = some r := by rw [List.getElem?_set_ne (by omega)]; exact hrq
   have h2 := flat_at (rows.set i r') hrs (j / sz) (j % sz) r h1 hmod
   have h3 := flat_at rows hr (j / sz) (j % sz) r hrq hmod
   rw [hdm] at h2 h3
   rw [h2, ← h3, ← hc, List.getElem?_take_of_lt hj]
   refine hu.2 j ?_
   rcases Nat.lt_or_ge (j / sz) i with hlt | hge
   ·left
    have := Nat.mul_le_mul_right sz (show j / sz + 1 ≤ i by omega)
    rw [Nat.add_mul, Nat.one_mul] at this
    omega
   ·right
    have := Nat.mul_le_mul_right sz (show i + 1 ≤ j / sz by omega)
    rw [Nat.add_mul, Nat.one_mul] at this
    omega
 ·rw [List.getElem?_eq_none (by rw [List.length_take]; omega), List.getElem?_eq_none (by rw [rows_len _ hrs, List.length_set, hn]; exact hj)]
theorem flat_sub {sz n i : Nat} {cs r : List Value} {rows : List (List Value)} (hc : cs.take (n * sz) = rows.flatten) (hn : rows.length = n) (hr : ∀ r ∈ rows, r.length = sz) (hi : rows[i]? = some r) : Sub cs (i * sz) r := fun k hk => by
 have hlt : i < n := by rw [← hn]; exact (List.getElem?_eq_some_iff.1 hi).1
 have hrl : r.length = sz := hr r (List.mem_of_getElem? hi)
 have h1 := flat_at rows hr i k r hi (by omega)
 have h2 : i * sz + k < n * sz := by
  have := Nat.mul_le_mul_right sz (show i + 1 ≤ n by omega)
  rw [Nat.add_mul, Nat.one_mul] at this
  omega
 rw [← h1, ← hc, List.getElem?_take_of_lt h2]
def RowH (T el : TypeId) (sz t : Nat) (A : Option Addr) (n c : Nat) (rows : List (List Value)) : HP := HP.many [HP.blk t T [.slice A n c], HP.own el sz (.slice A n c) n rows.flatten]
structure RowR (w : World) (sz t : Nat) (A : Option Addr) (n c : Nat) (rows : List (List Value)) : Prop where
 r0 : ROc w t 0 (.slice A n c)
 row : SlS (all w) sz A n rows.flatten
section
variable {N : Frm} {w0 w : World} {e : Env} {R : List Piece} {H : List HP} {K : Act → World → Prop} {T el : TypeId} {sz t n c : Nat} {A : Option Addr} {rows rows' : List (List Value)}
theorem RowH.reads {F : Nat → Prop} (h : (RowH T el sz t A n c rows).sat F w) (hF : ∀ b, F b → b < w.heap.size) : RowR w sz t A n c rows := by
 obtain ⟨G, g1, g2, _⟩ := h
 have h0 := g1 0 _ rfl
 have h1 := g1 1 _ rfl
 obtain ⟨A', c', he, hs⟩ := SlS.of_own (Y := fun b => b < w.heap.size) h1 (fun b hb => hF b (g2 1 b hb))
 injection he with he
 subst he
 exact ⟨⟨h0.2.lt, by rw [h0.2.cell]; rfl⟩, hs⟩
theorem St.rowR (st : St w0 R H w) (i : Nat) (hi : H[i]? = some (RowH T el sz t A n c rows)) : RowR w sz t A n c rows := by
 obtain ⟨F, h1, h2, _⟩ := st.chunk hi
 exact RowH.reads h1 h2
theorem Rd.row (i : Nat) (hi : H[i]? = some (RowH T el sz t A n c rows)) : Rd w0 R H t 0 (.slice A n c) := fun w st => (st.rowR i hi).r0.2
theorem RowR.at_ (h : RowR w sz t A n c rows) (hr : ∀ r ∈ rows, r.length = sz) {i : Nat} {r : List Value} (hi : rows[i]? = some r) (hn : i < n) : ∃ b off, A = some ⟨b, off, none⟩ ∧ ROn w b (off + i * sz) r := SlS.row h.row hr hi hn
theorem RowR.below {w' : World} (h : RowR w sz t A n c rows) (hb : Below w.heap.size w w') : RowR w' sz t A n c rows :=
 ⟨⟨Nat.lt_of_lt_of_le h.r0.1 hb.size, (hb.cell (p := ⟨_, 0, none⟩) h.r0.1).trans h.r0.2⟩, h.row.le (all_le hb)⟩
end
end
section
section
variable {N : Frm} {w0 : World} {e : Env} {R R0 : List Piece} {H H0 : List HP} {Q : Exit → Act → World → Prop} {ops : Array Oper} {rest : List Oper} {K : Act → World → Prop} {m fuel : Nat} {listed : Array Bool}
variable {d : Nat} {ty : TypeId} {pos : String} {aft : Array Edge} {op : Op} {v : Value}
theorem kcallWC (i : Nat) {f : FuncId} {x : Operand} {args : List Operand} {fi ca vs : List Value} {tys : Array TypeId} {p : HP} (q : HP)
  (hc : ∀ w F, St w0 R H w → p.sat F w → (∀ b, F b → b < w.heap.size) → (∀ q ∈ R, q.Le ⟨w, fun b => b < w.heap.size ∧ ¬ F b⟩) → Calls Tryz.prog f (fi ++ vs ++ ca).toArray w fun y w' => y = .returned v ∧ ∃ F', q.sat F' w' ∧ Turns w w' F F')
  (k : XK N w0 (wpList Tryz.prog ops Q rest) ((d, v) :: e) R (H.set i q)) (hi : H[i]? = some p := by rfl) (hx : e.ev x = some (.func (.func f) fi.toArray ca.toArray) := by rfl) (ha : e.evs args = some vs := by rfl) (hf : callB Tryz.prog f = true := by kernel_rfl) (hd : d < N.n := by decide) :
  XK N w0 (wpList Tryz.prog ops Q (⟨some d, .call { callee := .value x, args := args.toArray, argTypes := tys }, ty, pos, aft, none⟩ :: rest)) e R H := xk_callE (dst := some d) (e' := (d, v) :: e) i q hf hx ha hi ⟨hd, rfl⟩ hc k
theorem kcallW (i : Nat) {f : FuncId} {x : Operand} {args : List Operand} {vs : List Value} {tys : Array TypeId} {p : HP} (q : HP)
  (hc : ∀ w F, St w0 R H w → p.sat F w → (∀ b, F b → b < w.heap.size) → (∀ q ∈ R, q.Le ⟨w, fun b => b < w.heap.size ∧ ¬ F b⟩) → Calls Tryz.prog f vs.toArray w fun y w' => y = .returned v ∧ ∃ F', q.sat F' w' ∧ Turns w w' F F')
  (k : XK N w0 (wpList Tryz.prog ops Q rest) ((d, v) :: e) R (H.set i q)) (hi : H[i]? = some p := by rfl) (hx : e.ev x = some (.func (.func f) #[] #[]) := by rfl) (ha : e.evs args = some vs := by rfl) (hf : callB Tryz.prog f = true := by kernel_rfl) (hd : d < N.n := by decide) :
  XK N w0 (wpList Tryz.prog ops Q (⟨some d, .call { callee := .value x, args := args.toArray, argTypes := tys }, ty, pos, aft, none⟩ :: rest)) e R H := kcallWC (fi := []) (ca := []) i q (fun w F t h1 h2 h3 => by simpa using hc w F t h1 h2 h3) k hi hx ha hf hd
end
end
section
section
variable {P : Program} {ops : Array Oper} {Q : Exit → Act → World → Prop} {S : World → Prop} {Z : List Nat}
def waitsB (ops : Array Oper) (Z : List Nat) (j : Nat) : Bool := match ops[j]? with
 | some o => Z.all fun z => (closeM ops ops.size (predM o)).testBit z
 | none => true
def moveB (ops : Array Oper) (j : Nat) : Bool := match ops[j]? with
 | some o => (match o.op with
  | .move _ => true
  | _ => false)
 | none => false
def wpAnyY (P : Program) (ops : Array Oper) (Q : Exit → Act → World → Prop) (S : World → Prop) (Z : List Nat) : Nat → Array Bool → Act → World → Prop
 | 0, listed, a, w => Region.ready .any ops listed = [] ∧ Q .normal a w
 | fuel + 1, listed, a, w => (Region.ready .any ops listed = [] → Q .normal a w) ∧
  ∀ i ∈ Region.ready .any ops listed, wpOp P ops Q i (fun a' w' => (waitsB ops Z i = false → (S w ∨ moveB ops i = false) → S w') ∧ wpAnyY P ops Q S Z fuel (listed.setIfInBounds i true) a' w') a w
theorem wpAny_of_y : ∀ (fuel : Nat) (listed : Array Bool) (a : Act) (w : World), wpAnyY P ops Q S Z fuel listed a w → wpAny P .any ops Q fuel listed a w
 | 0, _, _, _, h => h
 | fuel + 1, _, _, _, h => ⟨h.1, fun i hi => wpOp_mono (fun a' w' h' => wpAny_of_y fuel _ a' w' h'.2) (h.2 i hi)⟩
theorem wpAnyY_first {i : Nat} {oi : Oper} {v : Value} (hi : ops[i]? = some oi) (hsel : ∀ (j : Nat) (o : Oper) cs b, ops[j]? = some o → o.op ≠ .select cs b)
  (hQ : ∀ c a w, Q (.panic c) (a.put oi.dst v) w → Q (.panic c) a w) (him : i ∈ Z) :
  ∀ (fuel : Nat) (listed : Array Bool) (a : Act) (w : World), Down ops listed →
   (∀ j oj, ops[j]? = some oj → j ≠ i → listed.getD j true = false → (∀ e ∈ oj.after, Region.binds .any e = true → e.on ≠ i) → oi.apart ops oj = true) →
   i ∈ Region.ready .any ops listed → YieldsIf P ops S oi v a → S w →
   wpAnyY P ops Q S Z fuel (listed.setIfInBounds i true) (a.put oi.dst v) w → wpAnyY P ops Q S Z (fuel + 1) listed a w := by
 intro fuel
 induction fuel with
 | zero =>
  intro listed a w hdn _ hr hy hS H
  refine ⟨fun h => (by rw [h] at hr; cases hr), fun j hj => ?_⟩
  by_cases hji : j = i
  ·subst hji; exact hy.wpOp hi hS ⟨fun _ _ => hS, H⟩
  ·have := ready_mono hj hji
   rw [H.1] at this
   cases this
 | succ fuel ih =>
  intro listed a w hdn hfree hr hy hS H
  refine ⟨fun h => (by rw [h] at hr; cases hr), fun j hj => ?_⟩
  by_cases hji : j = i
  ·subst hji; exact hy.wpOp hi hS ⟨fun _ _ => hS, H⟩
  ·have h1 := H.2 j (ready_mono hj hji)
   obtain ⟨hjun, oj, hoj, hall⟩ := mem_ready.1 hj
   have hun : ∀ k, k ∈ Region.ready .any ops listed → listed.getD k false = true → False := fun k hk h => by
    have h0 := (mem_ready.1 hk).1
    rcases Nat.lt_or_ge k listed.size with h' | h'
    ·simp [h'] at h0 h; rw [h0] at h; cases h
    ·simp [Array.getElem?_eq_none h'] at h
   have hjm : waitsB ops Z j = false := by
    cases hw : waitsB ops Z j with
    | false => rfl
    | true =>
     exfalso
     unfold waitsB at hw
     rw [hoj] at hw
     exact hun i hr (closeM_spec hdn ops.size _ (predM_spec (P := fun k => listed.getD k false = true) fun x hx hb => hall x hx hb) i (List.all_eq_true.1 hw i him))
   have hnot : ∀ e ∈ oj.after, Region.binds .any e = true → e.on ≠ i := fun e he hb heq => hun i hr (heq ▸ hall e he hb)
   have h2 := wpOp_putIf hoj (hfree j oj hoj hji hjun hnot) (fun cs b => hsel i oi cs b hi) (fun cs b => hsel j oj cs b hoj) hQ hy h1
   have hfree' : ∀ k ok, ops[k]? = some ok → k ≠ i → (listed.setIfInBounds j true).getD k true = false →
     (∀ e ∈ ok.after, Region.binds .any e = true → e.on ≠ i) → oi.apart ops ok = true := fun k ok hk hki hun hno => by
    refine hfree k ok hk hki ?_ hno
    by_cases hjk : j = k
    ·subst hjk; exact hjun
    ·rw [getD_set_ne true hjk] at hun; exact hun
   refine wpOp_mono (fun a' w' h3 => ⟨h3.2.1, ih (listed.setIfInBounds j true) a' w' (hdn.set_ hj) hfree' (ready_mono hr (Ne.symm hji)) h3.1 (h3.2.1 hjm (.inl hS)) ?_⟩) h2
   rw [Array.setIfInBounds_comm _ _ hji]
   exact h3.2.2
theorem wpAnyY_pure {i : Nat} {oi : Oper} {v : Value} (hi : ops[i]? = some oi) (him : moveB ops i = true) (hsel : ∀ (j : Nat) (o : Oper) cs b, ops[j]? = some o → o.op ≠ .select cs b)
  (hQ : ∀ c a w, Q (.panic c) (a.put oi.dst v) w → Q (.panic c) a w) :
  ∀ (fuel : Nat) (listed : Array Bool) (a : Act) (w : World), Down ops listed →
   (∀ j oj, ops[j]? = some oj → j ≠ i → listed.getD j true = false → (∀ e ∈ oj.after, Region.binds .any e = true → e.on ≠ i) → oi.apart ops oj = true) →
   i ∈ Region.ready .any ops listed → YieldsIf P ops (fun _ => True) oi v a →
   wpAnyY P ops Q S Z fuel (listed.setIfInBounds i true) (a.put oi.dst v) w → wpAnyY P ops Q S Z (fuel + 1) listed a w := by
 intro fuel
 induction fuel with
 | zero =>
  intro listed a w hdn _ hr hy H
  refine ⟨fun h => (by rw [h] at hr; cases hr), fun j hj => ?_⟩
  by_cases hji : j = i
  ·subst hji; exact hy.wpOp hi trivial ⟨fun _ hw => hw.resolve_right (by rw [him]; decide), H⟩
  ·have := ready_mono hj hji
   rw [H.1] at this
   cases this
 | succ fuel ih =>
  intro listed a w hdn hfree hr hy H
  refine ⟨fun h => (by rw [h] at hr; cases hr), fun j hj => ?_⟩
  by_cases hji : j = i
  ·subst hji; exact hy.wpOp hi trivial ⟨fun _ hw => hw.resolve_right (by rw [him]; decide), H⟩
  ·have h1 := H.2 j (ready_mono hj hji)
   obtain ⟨hjun, oj, hoj, hall⟩ := mem_ready.1 hj
   have hun : ∀ k, k ∈ Region.ready .any ops listed → listed.getD k false = true → False := fun k hk h => by
    have h0 := (mem_ready.1 hk).1
    rcases Nat.lt_or_ge k listed.size with h' | h'
    ·simp [h'] at h0 h; rw [h0] at h; cases h
    ·simp [Array.getElem?_eq_none h'] at h
   have hnot : ∀ e ∈ oj.after, Region.binds .any e = true → e.on ≠ i := fun e he hb heq => hun i hr (heq ▸ hall e he hb)
   have h2 := wpOp_putIf hoj (hfree j oj hoj hji hjun hnot) (fun cs b => hsel i oi cs b hi) (fun cs b => hsel j oj cs b hoj) hQ hy h1
   have hfree' : ∀ k ok, ops[k]? = some ok → k ≠ i → (listed.setIfInBounds j true).getD k true = false →
     (∀ e ∈ ok.after, Region.binds .any e = true → e.on ≠ i) → oi.apart ops ok = true := fun k ok hk hki hun hno => by
    refine hfree k ok hk hki ?_ hno
    by_cases hjk : j = k
    ·subst hjk; exact hjun
    ·rw [getD_set_ne true hjk] at hun; exact hun
   refine wpOp_mono (fun a' w' h3 => ⟨h3.2.1, ih (listed.setIfInBounds j true) a' w' (hdn.set_ hj) hfree' (ready_mono hr (Ne.symm hji)) h3.1 ?_⟩) h2
   rw [Array.setIfInBounds_comm _ _ hji]
   exact h3.2.2
end
section
variable {P : Program} {N : Frm} {w0 : World} {e e' : Env} {R R' R0 : List Piece} {H H' H0 : List HP} {Q : Exit → Act → World → Prop} {ops : Array Oper} {Z : List Nat} {fuel : Nat} {listed : Array Bool}
structure Up2 (ops : Array Oper) (listed : Array Bool) : Prop where
 down : Down ops listed
 sel : Region.noSelect ops = true
theorem Up2.set_ {i : Nat} (h : Up2 ops listed) (hi : i ∈ Region.ready .any ops listed) : Up2 ops (listed.setIfInBounds i true) := ⟨h.down.set_ hi, h.sel⟩
def XB (P : Program) (N : Frm) (w0 : World) (ops : Array Oper) (Q : Exit → Act → World → Prop) (R0 : List Piece) (H0 : List HP) (Z : List Nat) (fuel : Nat) (listed : Array Bool) (e : Env) (R : List Piece) (H : List HP) : Prop :=
 Up2 ops listed → XK N w0 (wpAnyY P ops Q (St w0 R0 H0) Z fuel listed) e R H
def XBK (P : Program) (w0 : World) (ops : Array Oper) (Q : Exit → Act → World → Prop) (R0 : List Piece) (H0 : List HP) (Z : List Nat) (fuel : Nat) (listed : Array Bool) (i : Nat) : Act → World → Prop :=
 fun a' w' => (waitsB ops Z i = false → St w0 R0 H0 w') ∧ (Up2 ops (listed.setIfInBounds i true) → wpAnyY P ops Q (St w0 R0 H0) Z fuel (listed.setIfInBounds i true) a' w')
theorem XK.drawB (Z : List Nat) {id : Nat} {l : List Oper} (h : XB P N w0 l.toArray Q R H Z l.length (Array.replicate l.length false) e R H) (hm : P.follows .mixedOrders = true := by kernel_rfl) (hc : Region.noSelect l.toArray = true := by kernel_rfl) : XK N w0 ((Code.region id l.toArray true).wp P Q) e R H := fun a w hr st => by
 have := h ⟨Down.start _ _, hc⟩ a w.drew hr st.drew
 refine wp_region_any hm (wpAny_of_y (S := St w0 R H) (Z := Z) _ _ _ _ ?_)
 simpa using this
theorem XB.do_ (i : Nat) {oi : Oper} {v : Value} {d : Nat} (hi : ops[i]? = some oi) (hdst : oi.dst = some d) (hg : oi.guard = none) (hd : d < N.n) (hdo : Does P N w0 e R0 H0 oi v)
  (hc : (Region.free .any ops listed i && (Region.ready .any ops listed).contains i && Z.contains i) = true) (hQ : ∀ c a w, Q (.panic c) (a.put oi.dst v) w → Q (.panic c) a w)
  (hsub : ∀ w, St w0 R H w → St w0 R0 H0 w)
  (k : XB P N w0 ops Q R0 H0 Z fuel (listed.setIfInBounds i true) ((d, v) :: e) R H) : XB P N w0 ops Q R0 H0 Z (fuel + 1) listed e R H := by
 simp only [Bool.and_eq_true] at hc
 obtain ⟨⟨h2, h3⟩, h5⟩ := hc
 intro up a w hr st
 have hp := k (up.set_ (by simpa using h3)) (a.put oi.dst v) w (by rw [hdst]; exact hr.put hd v) st
 refine wpAnyY_first hi (Region.noSelect_spec up.sel) hQ (by simpa using h5) fuel listed a w up.down (Region.free_spec hi h2) (by simpa using h3) (.inl ⟨by simp [Region.wanted, hg], fun w' hw' => ?_⟩) (hsub w st) hp
 exact hdo a w' hr hw'
theorem XB.pure (i : Nat) (hmv : moveB ops i = true) {oi : Oper} {v : Value} {d : Nat} (hi : ops[i]? = some oi) (hdst : oi.dst = some d) (hg : oi.guard = none) (hd : d < N.n) (hdo : ∀ a w, Rep N e a → (execOp a.eval oi).run P w = .ok (.value v) w)
  (hc : (Region.free .any ops listed i && (Region.ready .any ops listed).contains i) = true) (hQ : ∀ c a w, Q (.panic c) (a.put oi.dst v) w → Q (.panic c) a w)
  (k : XB P N w0 ops Q R0 H0 Z fuel (listed.setIfInBounds i true) ((d, v) :: e) R H) : XB P N w0 ops Q R0 H0 Z (fuel + 1) listed e R H := by
 simp only [Bool.and_eq_true] at hc
 obtain ⟨h2, h3⟩ := hc
 intro up a w hr st
 have hp := k (up.set_ (by simpa using h3)) (a.put oi.dst v) w (by rw [hdst]; exact hr.put hd v) st
 refine wpAnyY_pure hi hmv (Region.noSelect_spec up.sel) hQ fuel listed a w up.down (Region.free_spec hi h2) (by simpa using h3) (.inl ⟨by simp [Region.wanted, hg], fun w' _ => ?_⟩) hp
 exact hdo a w' hr
theorem XB.next (i : Nat) {oi : Oper} (hi : ops[i]? = some oi) (hr : Region.ready .any ops listed = [i]) (k : XK N w0 (wpList P ops (Exit.then (XBK P w0 ops Q R0 H0 Z fuel listed i) Q) [oi]) e R H) : XB P N w0 ops Q R0 H0 Z (fuel + 1) listed e R H := by
 intro up a w hrp st
 refine ⟨fun h => (by rw [hr] at h; cases h), fun j hj => ?_⟩
 rw [hr] at hj
 simp at hj
 subst hj
 exact xa_step hi (fun a w h => ⟨fun hw _ => h.1 hw, h.2 (up.set_ (by rw [hr]; simp))⟩) (k a w hrp st)
theorem XB.either (i j : Nat) {oi oj : Oper} (hi : ops[i]? = some oi) (hj : ops[j]? = some oj) (hr : Region.ready .any ops listed = [i, j])
  (k1 : XK N w0 (wpList P ops (Exit.then (XBK P w0 ops Q R0 H0 Z fuel listed i) Q) [oi]) e R H) (k2 : XK N w0 (wpList P ops (Exit.then (XBK P w0 ops Q R0 H0 Z fuel listed j) Q) [oj]) e R H) : XB P N w0 ops Q R0 H0 Z (fuel + 1) listed e R H := by
 intro up a w hrp st
 refine ⟨fun h => (by rw [hr] at h; cases h), fun q hq => ?_⟩
 have hq' := hq
 rw [hr] at hq
 simp at hq
 rcases hq with rfl | rfl
 ·exact xa_step hi (fun a w h => ⟨fun hw _ => h.1 hw, h.2 (up.set_ hq')⟩) (k1 a w hrp st)
 ·exact xa_step hj (fun a w h => ⟨fun hw _ => h.1 hw, h.2 (up.set_ hq')⟩) (k2 a w hrp st)
theorem XB.back {i : Nat} (hS : ∀ w, St w0 R H w → St w0 R0 H0 w) (h : XB P N w0 ops Q R0 H0 Z fuel (listed.setIfInBounds i true) e R H) : XK N w0 (XBK P w0 ops Q R0 H0 Z fuel listed i) e R H := fun a w hr st => ⟨fun _ => hS w st, fun up => h up a w hr st⟩
theorem XB.done (hr : Region.ready .any ops listed = []) (h : XK N w0 (Q .normal) e R H) : XB P N w0 ops Q R0 H0 Z fuel listed e R H := by
 intro up a w hrp st
 cases fuel with
 | zero => exact ⟨hr, h a w hrp st⟩
 | succ fuel => exact ⟨fun _ => h a w hrp st, by rw [hr]; simp⟩
theorem XB.backT {i : Nat} (h : XB P N w0 ops Q R0 H0 Z fuel (listed.setIfInBounds i true) e R H) (hl : waitsB ops Z i = true := by kernel_rfl) : XK N w0 (XBK P w0 ops Q R0 H0 Z fuel listed i) e R H := fun a w hr st => ⟨(fun h2 => by rw [hl] at h2; cases h2), fun up => h up a w hr st⟩
theorem XB.bt {i : Nat} (h : XB P N w0 ops Q R0 H0 Z fuel (listed.setIfInBounds i true) e R H) (hl : waitsB ops Z i = true := by kernel_rfl) : XK N w0 (wpList P ops (Exit.then (XBK P w0 ops Q R0 H0 Z fuel listed i) Q) []) e R H := XK.nil (XK.thenN (XB.backT h hl))
theorem XB.bk {i : Nat} (h : XB P N w0 ops Q R0 H0 Z fuel (listed.setIfInBounds i true) e R H) (hS : ∀ w, St w0 R H w → St w0 R0 H0 w := by first | exact fun _ h => h | exact fun _ h => h.tail | exact fun _ h => h.tailR | exact fun _ h => h.tail.tail | exact fun _ h => h.tailR.tail | exact fun _ h => h.tailR.tailR | exact fun _ h => h.tailR.tail.tail | exact fun _ h => h.tail.tail.tail | exact fun _ h => h.tailR.tail.tailR.tail) : XK N w0 (wpList P ops (Exit.then (XBK P w0 ops Q R0 H0 Z fuel listed i) Q) []) e R H := XK.nil (XK.thenN (XB.back hS h))
end
section
variable {N : Frm} {w0 : World} {e : Env} {R R0 : List Piece} {H H0 : List HP} {Q : Exit → Act → World → Prop} {ops : Array Oper} {Z : List Nat} {fuel : Nat} {listed : Array Bool}
variable {d : Nat} {ty : TypeId} {pos : String} {aft : Array Edge} {op : Op} {v : Value}
theorem XB.q (i : Nat) (k : XB Tryz.prog N w0 ops Q R0 H0 Z fuel (listed.setIfInBounds i true) ((d, v) :: e) R H) (hi : ops[i]? = some ⟨some d, op, ty, pos, aft, none⟩ := by rfl) (hdo : Does Tryz.prog N w0 e R0 H0 ⟨some d, op, ty, pos, aft, none⟩ v := by
  first
  | ((with_reducible apply sh_move); exact does_move rfl)
  | ((with_reducible apply sh_assign); exact does_assign rfl)
  | ((with_reducible apply sh_load); (first | exact does_ld1 rfl | exact does_ldA rfl | exact does_ldS rfl))
  | ((with_reducible apply sh_fieldAddr); exact does_fd rfl)
  | ((with_reducible apply sh_nilCheck); exact does_nilC rfl)
  | ((with_reducible apply sh_pick); (first | exact does_pickT rfl rfl | exact does_pickF rfl rfl))
  | ((with_reducible apply sh_binOp); (first | exact does_lss rfl rfl | exact does_leq rfl rfl | exact does_gtr rfl rfl | exact does_geq rfl rfl | exact does_eql rfl rfl | exact does_neq rfl rfl | exact does_add rfl rfl (wrap_in (by omega)) | exact does_sub rfl rfl (wrap_in (by omega)) | exact does_pN rfl | exact does_pS rfl | exact does_pn rfl))
  | ((with_reducible apply sh_unOp); (first | exact does_notD rfl | exact does_not rfl))
  | ((with_reducible apply sh_len); exact does_ln rfl)
  | ((with_reducible apply sh_extract); exact does_extract rfl rfl)
  | ((with_reducible apply sh_field); exact does_f1 rfl rfl)) (hd : d < N.n := by decide)
  (hc : (Region.free .any ops listed i && (Region.ready .any ops listed).contains i && Z.contains i) = true := by kernel_rfl) (hQ : ∀ c a w, Q (.panic c) (a.put (some d) v) w → Q (.panic c) a w := by exact fun _ _ _ h => h)
  (hsub : ∀ w, St w0 R H w → St w0 R0 H0 w := by first | exact fun _ h => h | exact fun _ h => h.tail | exact fun _ h => h.tailR | exact fun _ h => h.tail.tail | exact fun _ h => h.tailR.tail | exact fun _ h => h.tailR.tailR) : XB Tryz.prog N w0 ops Q R0 H0 Z (fuel + 1) listed e R H := XB.do_ i hi rfl rfl hd hdo hc hQ hsub k
theorem XB.mv (i : Nat) {y : Operand} (k : XB Tryz.prog N w0 ops Q R0 H0 Z fuel (listed.setIfInBounds i true) ((d, v) :: e) R H) (hi : ops[i]? = some ⟨some d, .move y, ty, pos, aft, none⟩ := by rfl) (hx : e.ev y = some v := by rfl) (hd : d < N.n := by decide)
  (hc : (Region.free .any ops listed i && (Region.ready .any ops listed).contains i) = true := by kernel_rfl) (hQ : ∀ c a w, Q (.panic c) (a.put (some d) v) w → Q (.panic c) a w := by exact fun _ _ _ h => h)
  (hsub : ∀ w, St w0 R H w → St w0 R0 H0 w := by first | exact fun _ h => h | exact fun _ h => h.tail | exact fun _ h => h.tailR | exact fun _ h => h.tail.tail | exact fun _ h => h.tailR.tail | exact fun _ h => h.tailR.tailR | exact fun _ h => h.tailR.tail.tail | exact fun _ h => h.tail.tail.tail | exact fun _ h => h.tailR.tail.tailR.tail) : XB Tryz.prog N w0 ops Q R0 H0 Z (fuel + 1) listed e R H := XB.pure i (by simp [moveB, hi]) hi rfl rfl hd (fun a w hr => by simp [execOp, hr.ev hx]) hc hQ k
end
end
section
section
variable {P : Program} {N : Frm} {w0 : World} {e : Env} {R R0 : List Piece} {H H0 : List HP} {Q : Exit → Act → World → Prop} {ops : Array Oper} {Z : List Nat} {fuel : Nat} {listed : Array Bool}
variable {d t j : Nat} {want : Bool} {op : Op} {ty : TypeId} {pos : String} {aft : Array Edge}
theorem XB.doT (i : Nat) {v : Value} (hi : ops[i]? = some ⟨some d, op, ty, pos, aft, some (j, want)⟩) (hj : (ops[j]?).bind (·.dst) = some t) (ht : e.get t = some (.bool want)) (hd : d < N.n) (hdo : Does P N w0 e R0 H0 ⟨some d, op, ty, pos, aft, none⟩ v)
  (hc : (Region.free .any ops listed i && (Region.ready .any ops listed).contains i && Z.contains i) = true) (hQ : ∀ c a w, Q (.panic c) (a.put (some d) v) w → Q (.panic c) a w)
  (hsub : ∀ w, St w0 R H w → St w0 R0 H0 w)
  (k : XB P N w0 ops Q R0 H0 Z fuel (listed.setIfInBounds i true) ((d, v) :: e) R H) : XB P N w0 ops Q R0 H0 Z (fuel + 1) listed e R H := by
 simp only [Bool.and_eq_true] at hc
 obtain ⟨⟨h2, h3⟩, h5⟩ := hc
 intro up a w hr st
 have hp := k (up.set_ (by simpa using h3)) (a.put (some d) v) w (hr.put hd v) st
 refine wpAnyY_first hi (Region.noSelect_spec up.sel) hQ (by simpa using h5) fuel listed a w up.down (Region.free_spec hi h2) (by simpa using h3) (.inl ⟨?_, fun w' hw' => ?_⟩) (hsub w st) hp
 ·simp only [Region.wanted, yielded, hj, Option.bind_some, hr.get t _ ht]
  simp
 ·exact hdo a w' hr hw'
end
section
variable {N : Frm} {w0 : World} {e : Env} {R R0 : List Piece} {H H0 : List HP} {Q : Exit → Act → World → Prop} {ops : Array Oper} {Z : List Nat} {fuel : Nat} {listed : Array Bool}
variable {d t j : Nat} {want : Bool} {ty : TypeId} {pos : String} {aft : Array Edge} {op : Op} {v : Value}
theorem XB.qT (i : Nat) (k : XB Tryz.prog N w0 ops Q R0 H0 Z fuel (listed.setIfInBounds i true) ((d, v) :: e) R H) (hi : ops[i]? = some ⟨some d, op, ty, pos, aft, some (j, want)⟩ := by rfl) (hj : (ops[j]?).bind (·.dst) = some t := by rfl) (ht : e.get t = some (.bool want) := by rfl) (hdo : Does Tryz.prog N w0 e R0 H0 ⟨some d, op, ty, pos, aft, none⟩ v := by
  first
  | ((with_reducible apply sh_move); exact does_move rfl)
  | ((with_reducible apply sh_assign); exact does_assign rfl)
  | ((with_reducible apply sh_load); (first | exact does_ld1 rfl | exact does_ldA rfl | exact does_ldS rfl))
  | ((with_reducible apply sh_fieldAddr); exact does_fd rfl)
  | ((with_reducible apply sh_nilCheck); exact does_nilC rfl)
  | ((with_reducible apply sh_pick); (first | exact does_pickT rfl rfl | exact does_pickF rfl rfl))
  | ((with_reducible apply sh_binOp); (first | exact does_lss rfl rfl | exact does_leq rfl rfl | exact does_gtr rfl rfl | exact does_geq rfl rfl | exact does_eql rfl rfl | exact does_neq rfl rfl | exact does_add rfl rfl (wrap_in (by omega)) | exact does_sub rfl rfl (wrap_in (by omega)) | exact does_pN rfl | exact does_pS rfl | exact does_pn rfl))
  | ((with_reducible apply sh_unOp); (first | exact does_notD rfl | exact does_not rfl))
  | ((with_reducible apply sh_len); exact does_ln rfl)
  | ((with_reducible apply sh_extract); exact does_extract rfl rfl)
  | ((with_reducible apply sh_field); exact does_f1 rfl rfl)) (hd : d < N.n := by decide)
  (hc : (Region.free .any ops listed i && (Region.ready .any ops listed).contains i && Z.contains i) = true := by kernel_rfl) (hQ : ∀ c a w, Q (.panic c) (a.put (some d) v) w → Q (.panic c) a w := by exact fun _ _ _ h => h)
  (hsub : ∀ w, St w0 R H w → St w0 R0 H0 w := by first | exact fun _ h => h | exact fun _ h => h.tail | exact fun _ h => h.tailR | exact fun _ h => h.tail.tail | exact fun _ h => h.tailR.tail | exact fun _ h => h.tailR.tailR) : XB Tryz.prog N w0 ops Q R0 H0 Z (fuel + 1) listed e R H := XB.doT i hi hj ht hd hdo hc hQ hsub k
end
end
section
class ZeT (t : TypeId) (zs : outParam (List Value)) : Prop where
 h : zeroB Tryz.prog t zs
class LyT (t : TypeId) (L : outParam (List (Nat × Nat))) : Prop where
 h : layB Tryz.prog t = some L
class ByT (t : TypeId) (sz bytes : outParam Nat) : Prop where
 h : (Tryz.prog.info? t).map (fun i => (i.zero.map (fun z => z.cells.size), i.size, i.bytes)) = some (some sz, sz, bytes)
class NuT (t : TypeId) (k : outParam IntKind) : Prop where
 h : Tryz.prog.underlying t = some (.int k)
end
section
instance : ZeT 1 [.nilFunc] := ⟨zeroB_of (by kernel_rfl)⟩
instance : ByT 1 1 8 := ⟨by kernel_rfl⟩
instance : ZeT 2 [.int .i64 0] := ⟨zeroB_of (by kernel_rfl)⟩
instance : ByT 2 1 8 := ⟨by kernel_rfl⟩
instance : NuT 2 .i64 := ⟨by kernel_rfl⟩
instance : ZeT 3 [.int .i64 0] := ⟨zeroB_of (by kernel_rfl)⟩
instance : ByT 3 1 8 := ⟨by kernel_rfl⟩
instance : NuT 3 .i64 := ⟨by kernel_rfl⟩
instance : ZeT 4 [.bool false] := ⟨zeroB_of (by kernel_rfl)⟩
instance : ByT 4 1 1 := ⟨by kernel_rfl⟩
instance : ZeT 5 [.int .u8 0] := ⟨zeroB_of (by kernel_rfl)⟩
instance : ByT 5 1 1 := ⟨by kernel_rfl⟩
instance : NuT 5 .u8 := ⟨by kernel_rfl⟩
instance : ZeT 6 [.int .u8 0] := ⟨zeroB_of (by kernel_rfl)⟩
instance : ByT 6 1 1 := ⟨by kernel_rfl⟩
instance : NuT 6 .u8 := ⟨by kernel_rfl⟩
instance : ZeT 9 [.string ⟨#[]⟩] := ⟨zeroB_of (by kernel_rfl)⟩
instance : ByT 9 1 16 := ⟨by kernel_rfl⟩
instance : ZeT 12 [.int .u64 0] := ⟨zeroB_of (by kernel_rfl)⟩
instance : ByT 12 1 8 := ⟨by kernel_rfl⟩
instance : NuT 12 .u64 := ⟨by kernel_rfl⟩
instance : ZeT 17 [.pointer none] := ⟨zeroB_of (by kernel_rfl)⟩
instance : ByT 17 1 8 := ⟨by kernel_rfl⟩
instance : ZeT 19 [.pointer none] := ⟨zeroB_of (by kernel_rfl)⟩
instance : ByT 19 1 8 := ⟨by kernel_rfl⟩
instance : LyT 19 [(0, 1)] := ⟨by kernel_rfl⟩
instance : ZeT 21 [.int .i32 0] := ⟨zeroB_of (by kernel_rfl)⟩
instance : ByT 21 1 4 := ⟨by kernel_rfl⟩
instance : NuT 21 .i32 := ⟨by kernel_rfl⟩
instance : ZeT 22 [.slice none 0 0] := ⟨zeroB_of (by kernel_rfl)⟩
instance : ByT 22 1 24 := ⟨by kernel_rfl⟩
instance : ZeT 23 [.int .u32 0] := ⟨zeroB_of (by kernel_rfl)⟩
instance : ByT 23 1 4 := ⟨by kernel_rfl⟩
instance : NuT 23 .u32 := ⟨by kernel_rfl⟩
instance : ZeT 28 [.nilFunc] := ⟨zeroB_of (by kernel_rfl)⟩
instance : ByT 28 1 8 := ⟨by kernel_rfl⟩
instance : ZeT 29 [.slice none 0 0] := ⟨zeroB_of (by kernel_rfl)⟩
instance : ByT 29 1 24 := ⟨by kernel_rfl⟩
instance : ZeT 30 [.slice none 0 0] := ⟨zeroB_of (by kernel_rfl)⟩
instance : ByT 30 1 24 := ⟨by kernel_rfl⟩
instance : ZeT 31 [.slice none 0 0] := ⟨zeroB_of (by kernel_rfl)⟩
instance : ByT 31 1 24 := ⟨by kernel_rfl⟩
instance : ZeT 32 [.slice none 0 0] := ⟨zeroB_of (by kernel_rfl)⟩
instance : ByT 32 1 24 := ⟨by kernel_rfl⟩
instance : ZeT 34 [.slice none 0 0, .slice none 0 0, .slice none 0 0, .slice none 0 0] := ⟨zeroB_of (by kernel_rfl)⟩
instance : ByT 34 4 96 := ⟨by kernel_rfl⟩
instance : LyT 34 [(0, 1), (1, 1), (2, 1), (3, 1)] := ⟨by kernel_rfl⟩
instance : ZeT 35 [.nilFunc] := ⟨zeroB_of (by kernel_rfl)⟩
instance : ByT 35 1 8 := ⟨by kernel_rfl⟩
instance : ZeT 36 [.pointer none] := ⟨zeroB_of (by kernel_rfl)⟩
instance : ByT 36 1 8 := ⟨by kernel_rfl⟩
instance : ZeT 38 [.nilFunc] := ⟨zeroB_of (by kernel_rfl)⟩
instance : ByT 38 1 8 := ⟨by kernel_rfl⟩
instance : ZeT 53 [.nilFunc] := ⟨zeroB_of (by kernel_rfl)⟩
instance : ByT 53 1 8 := ⟨by kernel_rfl⟩
instance : ZeT 69 [.slice none 0 0] := ⟨zeroB_of (by kernel_rfl)⟩
instance : ByT 69 1 24 := ⟨by kernel_rfl⟩
instance : ZeT 71 [.int .i64 0, .int .i64 0, .int .i64 0, .int .u32 0, .slice none 0 0, .slice none 0 0] := ⟨zeroB_of (by kernel_rfl)⟩
instance : ByT 71 6 80 := ⟨by kernel_rfl⟩
instance : LyT 71 [(0, 1), (1, 1), (2, 1), (3, 1), (4, 1), (5, 1)] := ⟨by kernel_rfl⟩
instance : ZeT 100 [.slice none 0 0] := ⟨zeroB_of (by kernel_rfl)⟩
instance : ByT 100 1 24 := ⟨by kernel_rfl⟩
instance : ZeT 40 [.int .i64 0] := ⟨zeroB_of (by kernel_rfl)⟩
instance : ByT 40 1 8 := ⟨by kernel_rfl⟩
instance : NuT 40 .i64 := ⟨by kernel_rfl⟩
instance : ZeT 56 [.int .i64 0, .int .u32 0] := ⟨zeroB_of (by kernel_rfl)⟩
instance : ByT 56 2 16 := ⟨by kernel_rfl⟩
instance : LyT 56 [(0, 1), (1, 1)] := ⟨by kernel_rfl⟩
instance : ZeT 51 [.int .u8 0, .int .i64 0, .int .i64 0, .int .u32 0] := ⟨zeroB_of (by kernel_rfl)⟩
instance : ByT 51 4 32 := ⟨by kernel_rfl⟩
instance : LyT 51 [(0, 1), (1, 1), (2, 1), (3, 1)] := ⟨by kernel_rfl⟩
instance : ZeT 68 [.int .u32 0, .bool false] := ⟨zeroB_of (by kernel_rfl)⟩
instance : ByT 68 2 8 := ⟨by kernel_rfl⟩
instance : LyT 68 [(0, 1), (1, 1)] := ⟨by kernel_rfl⟩
instance : ZeT 49 [.int .i64 0, .int .i64 0, .bool false] := ⟨zeroB_of (by kernel_rfl)⟩
instance : ByT 49 3 24 := ⟨by kernel_rfl⟩
instance : LyT 49 [(0, 1), (1, 1), (2, 1)] := ⟨by kernel_rfl⟩
instance : ZeT 43 [.pointer none] := ⟨zeroB_of (by kernel_rfl)⟩
instance : ByT 43 1 8 := ⟨by kernel_rfl⟩
instance : ZeT 44 [.pointer none] := ⟨zeroB_of (by kernel_rfl)⟩
instance : ByT 44 1 8 := ⟨by kernel_rfl⟩
instance : ZeT 39 [.pointer none] := ⟨zeroB_of (by kernel_rfl)⟩
instance : ByT 39 1 8 := ⟨by kernel_rfl⟩
instance : ZeT 45 [.pointer none] := ⟨zeroB_of (by kernel_rfl)⟩
instance : ByT 45 1 8 := ⟨by kernel_rfl⟩
instance : ZeT 47 [.pointer none, .pointer none, .pointer none, .pointer none] := ⟨zeroB_of (by kernel_rfl)⟩
instance : ByT 47 4 32 := ⟨by kernel_rfl⟩
instance : LyT 47 [(0, 1), (1, 1), (2, 1), (3, 1)] := ⟨by kernel_rfl⟩
instance : ZeT 59 [.nilFunc] := ⟨zeroB_of (by kernel_rfl)⟩
instance : ByT 59 1 8 := ⟨by kernel_rfl⟩
instance : ZeT 25 [.int .i64 0, .int .i64 0, .int .i64 0, .int .i64 0, .int .i64 0, .int .i64 0] := ⟨zeroB_of (by kernel_rfl)⟩
instance : ByT 25 6 48 := ⟨by kernel_rfl⟩
instance : LyT 25 [(0, 1), (1, 1), (2, 1), (3, 1), (4, 1), (5, 1)] := ⟨by kernel_rfl⟩
instance : ZeT 27 [.int .i64 0, .int .i64 0, .int .i64 0, .int .i64 0, .int .i64 0, .int .u32 0, .int .i64 0, .int .i64 0, .int .i64 0, .int .i64 0, .int .i64 0, .int .i64 0] := ⟨zeroB_of (by kernel_rfl)⟩
instance : ByT 27 12 96 := ⟨by kernel_rfl⟩
instance : LyT 27 [(0, 1), (1, 1), (2, 1), (3, 1), (4, 1), (5, 1), (6, 6)] := ⟨by kernel_rfl⟩
instance : ZeT 60 [.nilFunc] := ⟨zeroB_of (by kernel_rfl)⟩
instance : ByT 60 1 8 := ⟨by kernel_rfl⟩
instance : ZeT 54 [.nilFunc] := ⟨zeroB_of (by kernel_rfl)⟩
instance : ByT 54 1 8 := ⟨by kernel_rfl⟩
instance : ZeT 52 [.nilFunc] := ⟨zeroB_of (by kernel_rfl)⟩
instance : ByT 52 1 8 := ⟨by kernel_rfl⟩
instance : ZeT 72 [.nilFunc] := ⟨zeroB_of (by kernel_rfl)⟩
instance : ByT 72 1 8 := ⟨by kernel_rfl⟩
instance : ZeT 58 [.nilFunc] := ⟨zeroB_of (by kernel_rfl)⟩
instance : ByT 58 1 8 := ⟨by kernel_rfl⟩
instance : ZeT 85 [.pointer none] := ⟨zeroB_of (by kernel_rfl)⟩
instance : ByT 85 1 8 := ⟨by kernel_rfl⟩
instance : ZeT 87 [.nilFunc] := ⟨zeroB_of (by kernel_rfl)⟩
instance : ByT 87 1 8 := ⟨by kernel_rfl⟩
instance : ZeT 286 [.nilFunc] := ⟨zeroB_of (by kernel_rfl)⟩
instance : ByT 286 1 8 := ⟨by kernel_rfl⟩
instance : ZeT 217 [.nilFunc] := ⟨zeroB_of (by kernel_rfl)⟩
instance : ByT 217 1 8 := ⟨by kernel_rfl⟩
instance : ZeT 89 [.slice none 0 0] := ⟨zeroB_of (by kernel_rfl)⟩
instance : ByT 89 1 24 := ⟨by kernel_rfl⟩
instance : ZeT 326 [.nilFunc] := ⟨zeroB_of (by kernel_rfl)⟩
instance : ByT 326 1 8 := ⟨by kernel_rfl⟩
instance : ZeT 323 [.nilFunc] := ⟨zeroB_of (by kernel_rfl)⟩
instance : ByT 323 1 8 := ⟨by kernel_rfl⟩
instance : ZeT 132 [.slice none 0 0] := ⟨zeroB_of (by kernel_rfl)⟩
instance : ByT 132 1 24 := ⟨by kernel_rfl⟩
instance : ZeT 215 [.nilFunc] := ⟨zeroB_of (by kernel_rfl)⟩
instance : ByT 215 1 8 := ⟨by kernel_rfl⟩
instance : ZeT 137 [.int .u8 0, .int .i64 0] := ⟨zeroB_of (by kernel_rfl)⟩
instance : ByT 137 2 16 := ⟨by kernel_rfl⟩
instance : LyT 137 [(0, 1), (1, 1)] := ⟨by kernel_rfl⟩
instance : ZeT 91 [.slice none 0 0, .slice none 0 0, .slice none 0 0] := ⟨zeroB_of (by kernel_rfl)⟩
instance : ByT 91 3 72 := ⟨by kernel_rfl⟩
instance : LyT 91 [(0, 1), (1, 1), (2, 1)] := ⟨by kernel_rfl⟩
instance : ZeT 128 [.slice none 0 0, .slice none 0 0, .slice none 0 0, .slice none 0 0, .slice none 0 0, .slice none 0 0] := ⟨zeroB_of (by kernel_rfl)⟩
instance : ByT 128 6 144 := ⟨by kernel_rfl⟩
instance : ZeT 130 [.slice none 0 0, .slice none 0 0, .slice none 0 0, .slice none 0 0, .slice none 0 0, .slice none 0 0] := ⟨zeroB_of (by kernel_rfl)⟩
instance : ByT 130 6 144 := ⟨by kernel_rfl⟩
instance : LyT 130 [(0, 6)] := ⟨by kernel_rfl⟩
instance : ZeT 131 [.nilFunc] := ⟨zeroB_of (by kernel_rfl)⟩
instance : ByT 131 1 8 := ⟨by kernel_rfl⟩
instance : ZeT 62 [.int .u64 0] := ⟨zeroB_of (by kernel_rfl)⟩
instance : ByT 62 1 8 := ⟨by kernel_rfl⟩
instance : NuT 62 .u64 := ⟨by kernel_rfl⟩
instance : ZeT 64 [.int .u8 0, .slice none 0 0, .int .u64 0, .int .i64 0, .int .i64 0, .int .i64 0] := ⟨zeroB_of (by kernel_rfl)⟩
instance : ByT 64 6 64 := ⟨by kernel_rfl⟩
instance : LyT 64 [(0, 1), (1, 1), (2, 1), (3, 1), (4, 1), (5, 1)] := ⟨by kernel_rfl⟩
instance : ZeT 66 [.int .i64 0] := ⟨zeroB_of (by kernel_rfl)⟩
instance : ByT 66 1 8 := ⟨by kernel_rfl⟩
instance : LyT 66 [(0, 1)] := ⟨by kernel_rfl⟩
instance : ZeT 74 [.nilFunc] := ⟨zeroB_of (by kernel_rfl)⟩
instance : ByT 74 1 8 := ⟨by kernel_rfl⟩
instance : ZeT 76 [.nilFunc] := ⟨zeroB_of (by kernel_rfl)⟩
instance : ByT 76 1 8 := ⟨by kernel_rfl⟩
instance : ZeT 42 [.nilFunc] := ⟨zeroB_of (by kernel_rfl)⟩
instance : ByT 42 1 8 := ⟨by kernel_rfl⟩
instance : ZeT 77 [.pointer none] := ⟨zeroB_of (by kernel_rfl)⟩
instance : ByT 77 1 8 := ⟨by kernel_rfl⟩
instance : ZeT 79 [.nilFunc] := ⟨zeroB_of (by kernel_rfl)⟩
instance : ByT 79 1 8 := ⟨by kernel_rfl⟩
instance : ZeT 80 [.pointer none] := ⟨zeroB_of (by kernel_rfl)⟩
instance : ByT 80 1 8 := ⟨by kernel_rfl⟩
instance : ZeT 82 [.nilFunc] := ⟨zeroB_of (by kernel_rfl)⟩
instance : ByT 82 1 8 := ⟨by kernel_rfl⟩
instance : ZeT 84 [.nilFunc] := ⟨zeroB_of (by kernel_rfl)⟩
instance : ByT 84 1 8 := ⟨by kernel_rfl⟩
instance : ZeT 119 [.pointer none] := ⟨zeroB_of (by kernel_rfl)⟩
instance : ByT 119 1 8 := ⟨by kernel_rfl⟩
instance : ZeT 122 [.pointer none] := ⟨zeroB_of (by kernel_rfl)⟩
instance : ByT 122 1 8 := ⟨by kernel_rfl⟩
instance : ZeT 125 [.int .i64 0, .int .i64 0, .int .i64 0, .int .u32 0, .pointer none, .pointer none] := ⟨zeroB_of (by kernel_rfl)⟩
instance : ByT 125 6 48 := ⟨by kernel_rfl⟩
instance : LyT 125 [(0, 1), (1, 1), (2, 1), (3, 1), (4, 1), (5, 1)] := ⟨by kernel_rfl⟩
instance : ZeT 106 [.pointer none] := ⟨zeroB_of (by kernel_rfl)⟩
instance : ByT 106 1 8 := ⟨by kernel_rfl⟩
instance : ZeT 109 [.pointer none] := ⟨zeroB_of (by kernel_rfl)⟩
instance : ByT 109 1 8 := ⟨by kernel_rfl⟩
instance : ZeT 112 [.pointer none] := ⟨zeroB_of (by kernel_rfl)⟩
instance : ByT 112 1 8 := ⟨by kernel_rfl⟩
instance : ZeT 115 [.pointer none] := ⟨zeroB_of (by kernel_rfl)⟩
instance : ByT 115 1 8 := ⟨by kernel_rfl⟩
instance : ZeT 116 [.slice none 0 0] := ⟨zeroB_of (by kernel_rfl)⟩
instance : ByT 116 1 24 := ⟨by kernel_rfl⟩
instance : ZeT 118 [.pointer none, .pointer none, .pointer none, .pointer none, .slice none 0 0] := ⟨zeroB_of (by kernel_rfl)⟩
instance : ByT 118 5 56 := ⟨by kernel_rfl⟩
instance : LyT 118 [(0, 1), (1, 1), (2, 1), (3, 1), (4, 1)] := ⟨by kernel_rfl⟩
instance : ZeT 92 [.int .i64 0, .int .i64 0, .int .i64 0, .int .i64 0, .int .i64 0, .int .i64 0] := ⟨zeroB_of (by kernel_rfl)⟩
instance : ByT 92 6 48 := ⟨by kernel_rfl⟩
instance : ZeT 94 [.int .i64 0, .int .u8 0, .int .i64 0, .int .i64 0, .int .u32 0, .int .i64 0, .int .u32 0, .int .i64 0, .int .i64 0, .int .i64 0, .int .i64 0, .int .i64 0, .int .i64 0] := ⟨zeroB_of (by kernel_rfl)⟩
instance : ByT 94 13 104 := ⟨by kernel_rfl⟩
instance : LyT 94 [(0, 1), (1, 4), (5, 2), (7, 6)] := ⟨by kernel_rfl⟩
instance : ZeT 95 [.int .i64 0, .int .u8 0, .int .i64 0, .int .i64 0, .int .u32 0, .int .i64 0, .int .u32 0, .int .i64 0, .int .i64 0, .int .i64 0, .int .i64 0, .int .i64 0, .int .i64 0, .int .i64 0, .int .u8 0, .int .i64 0, .int .i64 0, .int .u32 0, .int .i64 0, .int .u32 0, .int .i64 0, .int .i64 0, .int .i64 0, .int .i64 0, .int .i64 0, .int .i64 0, .int .i64 0, .int .u8 0, .int .i64 0, .int .i64 0, .int .u32 0, .int .i64 0, .int .u32 0, .int .i64 0, .int .i64 0, .int .i64 0, .int .i64 0, .int .i64 0, .int .i64 0] := ⟨zeroB_of (by kernel_rfl)⟩
instance : ByT 95 39 312 := ⟨by kernel_rfl⟩
instance : ZeT 96 [.slice none 0 0] := ⟨zeroB_of (by kernel_rfl)⟩
instance : ByT 96 1 24 := ⟨by kernel_rfl⟩
instance : ZeT 98 [.pointer none, .pointer none, .slice none 0 0, .slice none 0 0, .slice none 0 0, .slice none 0 0, .pointer none, .slice none 0 0, .slice none 0 0, .slice none 0 0, .int .i64 0, .int .u8 0, .int .i64 0, .int .i64 0, .int .u32 0, .int .i64 0, .int .u32 0, .int .i64 0, .int .i64 0, .int .i64 0, .int .i64 0, .int .i64 0, .int .i64 0, .int .i64 0, .int .u8 0, .int .i64 0, .int .i64 0, .int .u32 0, .int .i64 0, .int .u32 0, .int .i64 0, .int .i64 0, .int .i64 0, .int .i64 0, .int .i64 0, .int .i64 0, .int .i64 0, .int .u8 0, .int .i64 0, .int .i64 0, .int .u32 0, .int .i64 0, .int .u32 0, .int .i64 0, .int .i64 0, .int .i64 0, .int .i64 0, .int .i64 0, .int .i64 0, .int .i64 0, .slice none 0 0, .bool false, .bool false, .int .i64 0, .int .i64 0] := ⟨zeroB_of (by kernel_rfl)⟩
instance : ByT 98 55 560 := ⟨by kernel_rfl⟩
instance : LyT 98 [(0, 1), (1, 1), (2, 4), (6, 1), (7, 3), (10, 39), (49, 1), (50, 1), (51, 1), (52, 1), (53, 1), (54, 1)] := ⟨by kernel_rfl⟩
instance : ZeT 102 [.nilIface] := ⟨zeroB_of (by kernel_rfl)⟩
instance : ByT 102 1 16 := ⟨by kernel_rfl⟩
instance : ZeT 103 [.nilFunc] := ⟨zeroB_of (by kernel_rfl)⟩
instance : ByT 103 1 8 := ⟨by kernel_rfl⟩
instance : ZeT 104 [.pointer none] := ⟨zeroB_of (by kernel_rfl)⟩
instance : ByT 104 1 8 := ⟨by kernel_rfl⟩
instance : ZeT 134 [.int .i64 0, .slice none 0 0] := ⟨zeroB_of (by kernel_rfl)⟩
instance : ByT 134 2 32 := ⟨by kernel_rfl⟩
instance : LyT 134 [(0, 1), (1, 1)] := ⟨by kernel_rfl⟩
instance : ZeT 135 [.int .i64 0, .slice none 0 0, .int .i64 0, .slice none 0 0] := ⟨zeroB_of (by kernel_rfl)⟩
instance : ByT 135 4 64 := ⟨by kernel_rfl⟩
instance : ZeT 139 [.pointer none, .slice none 0 0, .slice none 0 0, .slice none 0 0, .slice none 0 0, .slice none 0 0, .slice none 0 0, .slice none 0 0, .slice none 0 0, .slice none 0 0, .slice none 0 0, .int .i64 0, .slice none 0 0, .int .i64 0, .slice none 0 0, .int .i64 0, .int .i64 0, .int .u8 0, .int .i64 0] := ⟨zeroB_of (by kernel_rfl)⟩
instance : ByT 139 19 344 := ⟨by kernel_rfl⟩
instance : LyT 139 [(0, 1), (1, 4), (5, 6), (11, 4), (15, 1), (16, 1), (17, 2)] := ⟨by kernel_rfl⟩
instance : ZeT 206 [.nilFunc] := ⟨zeroB_of (by kernel_rfl)⟩
instance : ByT 206 1 8 := ⟨by kernel_rfl⟩
instance : ZeT 324 [.nilFunc] := ⟨zeroB_of (by kernel_rfl)⟩
instance : ByT 324 1 8 := ⟨by kernel_rfl⟩
instance : ZeT 105 [.nilFunc] := ⟨zeroB_of (by kernel_rfl)⟩
instance : ByT 105 1 8 := ⟨by kernel_rfl⟩
instance : ZeT 184 [.slice none 0 0] := ⟨zeroB_of (by kernel_rfl)⟩
instance : ByT 184 1 24 := ⟨by kernel_rfl⟩
instance : ZeT 185 [.nilFunc] := ⟨zeroB_of (by kernel_rfl)⟩
instance : ByT 185 1 8 := ⟨by kernel_rfl⟩
instance : ZeT 186 [.map none] := ⟨zeroB_of (by kernel_rfl)⟩
instance : ByT 186 1 8 := ⟨by kernel_rfl⟩
instance : ZeT 188 [.slice none 0 0, .map none, .bool false] := ⟨zeroB_of (by kernel_rfl)⟩
instance : ByT 188 3 40 := ⟨by kernel_rfl⟩
instance : LyT 188 [(0, 1), (1, 1), (2, 1)] := ⟨by kernel_rfl⟩
instance : ZeT 328 [.nilFunc] := ⟨zeroB_of (by kernel_rfl)⟩
instance : ByT 328 1 8 := ⟨by kernel_rfl⟩
instance : ZeT 278 [.nilFunc] := ⟨zeroB_of (by kernel_rfl)⟩
instance : ByT 278 1 8 := ⟨by kernel_rfl⟩
instance : ZeT 280 [.int .i64 0, .int .i64 0, .int .i64 0, .int .i64 0] := ⟨zeroB_of (by kernel_rfl)⟩
instance : ByT 280 4 32 := ⟨by kernel_rfl⟩
instance : LyT 280 [(0, 1), (1, 1), (2, 1), (3, 1)] := ⟨by kernel_rfl⟩
instance : ZeT 281 [.nilFunc] := ⟨zeroB_of (by kernel_rfl)⟩
instance : ByT 281 1 8 := ⟨by kernel_rfl⟩
instance : ZeT 213 [.nilFunc] := ⟨zeroB_of (by kernel_rfl)⟩
instance : ByT 213 1 8 := ⟨by kernel_rfl⟩
instance : ZeT 176 [.int .u8 0, .int .i64 0, .int .i64 0, .int .u32 0] := ⟨zeroB_of (by kernel_rfl)⟩
instance : ByT 176 4 32 := ⟨by kernel_rfl⟩
instance : LyT 176 [(0, 1), (1, 1), (2, 1), (3, 1)] := ⟨by kernel_rfl⟩
instance : ZeT 177 [.int .i64 0, .int .u32 0] := ⟨zeroB_of (by kernel_rfl)⟩
instance : ByT 177 2 16 := ⟨by kernel_rfl⟩
instance : LyT 177 [(0, 1), (1, 1)] := ⟨by kernel_rfl⟩
instance : ZeT 108 [.nilFunc] := ⟨zeroB_of (by kernel_rfl)⟩
instance : ByT 108 1 8 := ⟨by kernel_rfl⟩
instance : ZeT 111 [.nilFunc] := ⟨zeroB_of (by kernel_rfl)⟩
instance : ByT 111 1 8 := ⟨by kernel_rfl⟩
instance : ZeT 114 [.nilFunc] := ⟨zeroB_of (by kernel_rfl)⟩
instance : ByT 114 1 8 := ⟨by kernel_rfl⟩
instance : ZeT 121 [.nilFunc] := ⟨zeroB_of (by kernel_rfl)⟩
instance : ByT 121 1 8 := ⟨by kernel_rfl⟩
instance : ZeT 123 [.nilFunc] := ⟨zeroB_of (by kernel_rfl)⟩
instance : ByT 123 1 8 := ⟨by kernel_rfl⟩
instance : ZeT 127 [.nilFunc] := ⟨zeroB_of (by kernel_rfl)⟩
instance : ByT 127 1 8 := ⟨by kernel_rfl⟩
instance : ZeT 88 [.nilFunc] := ⟨zeroB_of (by kernel_rfl)⟩
instance : ByT 88 1 8 := ⟨by kernel_rfl⟩
instance : ZeT 99 [.nilFunc] := ⟨zeroB_of (by kernel_rfl)⟩
instance : ByT 99 1 8 := ⟨by kernel_rfl⟩
instance : ZeT 140 [.pointer none] := ⟨zeroB_of (by kernel_rfl)⟩
instance : ByT 140 1 8 := ⟨by kernel_rfl⟩
instance : ZeT 142 [.nilFunc] := ⟨zeroB_of (by kernel_rfl)⟩
instance : ByT 142 1 8 := ⟨by kernel_rfl⟩
instance : ZeT 143 [.pointer none] := ⟨zeroB_of (by kernel_rfl)⟩
instance : ByT 143 1 8 := ⟨by kernel_rfl⟩
instance : ZeT 145 [.nilFunc] := ⟨zeroB_of (by kernel_rfl)⟩
instance : ByT 145 1 8 := ⟨by kernel_rfl⟩
instance : ZeT 146 [.pointer none] := ⟨zeroB_of (by kernel_rfl)⟩
instance : ByT 146 1 8 := ⟨by kernel_rfl⟩
instance : ZeT 148 [.nilFunc] := ⟨zeroB_of (by kernel_rfl)⟩
instance : ByT 148 1 8 := ⟨by kernel_rfl⟩
instance : ZeT 149 [.slice none 0 0] := ⟨zeroB_of (by kernel_rfl)⟩
instance : ByT 149 1 24 := ⟨by kernel_rfl⟩
instance : ZeT 150 [.slice none 0 0] := ⟨zeroB_of (by kernel_rfl)⟩
instance : ByT 150 1 24 := ⟨by kernel_rfl⟩
instance : ZeT 151 [.pointer none] := ⟨zeroB_of (by kernel_rfl)⟩
instance : ByT 151 1 8 := ⟨by kernel_rfl⟩
instance : ZeT 153 [.slice none 0 0, .pointer none, .pointer none, .pointer none, .slice none 0 0, .slice none 0 0, .pointer none] := ⟨zeroB_of (by kernel_rfl)⟩
instance : ByT 153 7 104 := ⟨by kernel_rfl⟩
instance : LyT 153 [(0, 1), (1, 1), (2, 1), (3, 1), (4, 1), (5, 1), (6, 1)] := ⟨by kernel_rfl⟩
instance : ZeT 154 [.pointer none] := ⟨zeroB_of (by kernel_rfl)⟩
instance : ByT 154 1 8 := ⟨by kernel_rfl⟩
instance : ZeT 156 [.nilFunc] := ⟨zeroB_of (by kernel_rfl)⟩
instance : ByT 156 1 8 := ⟨by kernel_rfl⟩
instance : ZeT 157 [.pointer none] := ⟨zeroB_of (by kernel_rfl)⟩
instance : ByT 157 1 8 := ⟨by kernel_rfl⟩
instance : ZeT 158 [.nilFunc] := ⟨zeroB_of (by kernel_rfl)⟩
instance : ByT 158 1 8 := ⟨by kernel_rfl⟩
instance : ZeT 160 [.nilFunc] := ⟨zeroB_of (by kernel_rfl)⟩
instance : ByT 160 1 8 := ⟨by kernel_rfl⟩
instance : ZeT 161 [.slice none 0 0, .slice none 0 0, .slice none 0 0] := ⟨zeroB_of (by kernel_rfl)⟩
instance : ByT 161 3 72 := ⟨by kernel_rfl⟩
instance : LyT 161 [(0, 1), (1, 1), (2, 1)] := ⟨by kernel_rfl⟩
instance : ZeT 162 [.slice none 0 0, .slice none 0 0, .slice none 0 0, .slice none 0 0, .slice none 0 0, .slice none 0 0] := ⟨zeroB_of (by kernel_rfl)⟩
instance : ByT 162 6 144 := ⟨by kernel_rfl⟩
instance : ZeT 164 [.slice none 0 0, .slice none 0 0, .slice none 0 0, .slice none 0 0, .slice none 0 0, .slice none 0 0] := ⟨zeroB_of (by kernel_rfl)⟩
instance : ByT 164 6 144 := ⟨by kernel_rfl⟩
instance : LyT 164 [(0, 6)] := ⟨by kernel_rfl⟩
instance : ZeT 165 [.nilFunc] := ⟨zeroB_of (by kernel_rfl)⟩
instance : ByT 165 1 8 := ⟨by kernel_rfl⟩
instance : ZeT 167 [.int .i64 0, .slice none 0 0] := ⟨zeroB_of (by kernel_rfl)⟩
instance : ByT 167 2 32 := ⟨by kernel_rfl⟩
instance : LyT 167 [(0, 1), (1, 1)] := ⟨by kernel_rfl⟩
instance : ZeT 168 [.int .i64 0, .slice none 0 0, .int .i64 0, .slice none 0 0] := ⟨zeroB_of (by kernel_rfl)⟩
instance : ByT 168 4 64 := ⟨by kernel_rfl⟩
instance : ZeT 169 [.int .u8 0, .int .i64 0] := ⟨zeroB_of (by kernel_rfl)⟩
instance : ByT 169 2 16 := ⟨by kernel_rfl⟩
instance : LyT 169 [(0, 1), (1, 1)] := ⟨by kernel_rfl⟩
instance : ZeT 171 [.pointer none, .slice none 0 0, .slice none 0 0, .slice none 0 0, .slice none 0 0, .int .i64 0, .slice none 0 0, .int .i64 0, .slice none 0 0, .slice none 0 0, .slice none 0 0, .slice none 0 0, .slice none 0 0, .slice none 0 0, .slice none 0 0, .int .i64 0, .int .u8 0, .int .i64 0, .int .i64 0] := ⟨zeroB_of (by kernel_rfl)⟩
instance : ByT 171 19 344 := ⟨by kernel_rfl⟩
instance : LyT 171 [(0, 1), (1, 4), (5, 4), (9, 6), (15, 1), (16, 2), (18, 1)] := ⟨by kernel_rfl⟩
instance : ZeT 172 [.pointer none] := ⟨zeroB_of (by kernel_rfl)⟩
instance : ByT 172 1 8 := ⟨by kernel_rfl⟩
instance : ZeT 174 [.nilFunc] := ⟨zeroB_of (by kernel_rfl)⟩
instance : ByT 174 1 8 := ⟨by kernel_rfl⟩
instance : ZeT 175 [.nilFunc] := ⟨zeroB_of (by kernel_rfl)⟩
instance : ByT 175 1 8 := ⟨by kernel_rfl⟩
instance : ZeT 179 [.int .i64 0, .int .u8 0, .int .i64 0, .int .i64 0, .int .u32 0, .int .i64 0, .int .u32 0, .slice none 0 0] := ⟨zeroB_of (by kernel_rfl)⟩
instance : ByT 179 8 80 := ⟨by kernel_rfl⟩
instance : LyT 179 [(0, 1), (1, 4), (5, 2), (7, 1)] := ⟨by kernel_rfl⟩
instance : ZeT 180 [.int .i64 0, .int .u8 0, .int .i64 0, .int .i64 0, .int .u32 0, .int .i64 0, .int .u32 0, .slice none 0 0, .int .i64 0, .int .u8 0, .int .i64 0, .int .i64 0, .int .u32 0, .int .i64 0, .int .u32 0, .slice none 0 0, .int .i64 0, .int .u8 0, .int .i64 0, .int .i64 0, .int .u32 0, .int .i64 0, .int .u32 0, .slice none 0 0] := ⟨zeroB_of (by kernel_rfl)⟩
instance : ByT 180 24 240 := ⟨by kernel_rfl⟩
instance : ZeT 181 [.slice none 0 0] := ⟨zeroB_of (by kernel_rfl)⟩
instance : ByT 181 1 24 := ⟨by kernel_rfl⟩
instance : ZeT 183 [.pointer none, .pointer none, .slice none 0 0, .slice none 0 0, .slice none 0 0, .slice none 0 0, .int .i64 0, .int .u8 0, .int .i64 0, .int .i64 0, .int .u32 0, .int .i64 0, .int .u32 0, .slice none 0 0, .int .i64 0, .int .u8 0, .int .i64 0, .int .i64 0, .int .u32 0, .int .i64 0, .int .u32 0, .slice none 0 0, .int .i64 0, .int .u8 0, .int .i64 0, .int .i64 0, .int .u32 0, .int .i64 0, .int .u32 0, .slice none 0 0, .pointer none, .slice none 0 0, .slice none 0 0, .slice none 0 0, .slice none 0 0, .int .i64 0, .bool false, .int .i64 0] := ⟨zeroB_of (by kernel_rfl)⟩
instance : ByT 183 38 480 := ⟨by kernel_rfl⟩
instance : LyT 183 [(0, 1), (1, 1), (2, 4), (6, 24), (30, 1), (31, 3), (34, 1), (35, 1), (36, 1), (37, 1)] := ⟨by kernel_rfl⟩
instance : ZeT 234 [.int .u8 0, .slice none 0 0, .int .u64 0, .int .i64 0, .int .i64 0, .int .i64 0, .bool false, .int .i64 0, .int .i64 0, .int .i64 0, .int .i64 0] := ⟨zeroB_of (by kernel_rfl)⟩
instance : ByT 234 11 104 := ⟨by kernel_rfl⟩
instance : LyT 234 [(0, 6), (6, 1), (7, 1), (8, 1), (9, 1), (10, 1)] := ⟨by kernel_rfl⟩
instance : ZeT 230 [.slice none 0 0] := ⟨zeroB_of (by kernel_rfl)⟩
instance : ByT 230 1 24 := ⟨by kernel_rfl⟩
instance : ZeT 232 [.slice none 0 0] := ⟨zeroB_of (by kernel_rfl)⟩
instance : ByT 232 1 24 := ⟨by kernel_rfl⟩
instance : LyT 232 [(0, 1)] := ⟨by kernel_rfl⟩
instance : ZeT 239 [.int .i64 0, .int .i64 0, .bool false, .int .u8 0, .int .i64 0, .bool false, .bool false] := ⟨zeroB_of (by kernel_rfl)⟩
instance : ByT 239 7 48 := ⟨by kernel_rfl⟩
instance : LyT 239 [(0, 3), (3, 1), (4, 1), (5, 1), (6, 1)] := ⟨by kernel_rfl⟩
instance : ZeT 244 [.int .i64 0, .int .i64 0, .bool false, .bool false] := ⟨zeroB_of (by kernel_rfl)⟩
instance : ByT 244 4 24 := ⟨by kernel_rfl⟩
instance : LyT 244 [(0, 1), (1, 1), (2, 1), (3, 1)] := ⟨by kernel_rfl⟩
instance : ZeT 199 [] := ⟨zeroB_of (by kernel_rfl)⟩
instance : ByT 199 0 0 := ⟨by kernel_rfl⟩
instance : LyT 199 [] := ⟨by kernel_rfl⟩
instance : ZeT 200 [] := ⟨zeroB_of (by kernel_rfl)⟩
instance : ByT 200 0 0 := ⟨by kernel_rfl⟩
instance : LyT 200 [] := ⟨by kernel_rfl⟩
instance : ZeT 202 [.bool false] := ⟨zeroB_of (by kernel_rfl)⟩
instance : ByT 202 1 1 := ⟨by kernel_rfl⟩
instance : LyT 202 [(0, 1)] := ⟨by kernel_rfl⟩
instance : ZeT 203 [] := ⟨zeroB_of (by kernel_rfl)⟩
instance : ByT 203 0 0 := ⟨by kernel_rfl⟩
instance : LyT 203 [] := ⟨by kernel_rfl⟩
instance : ZeT 204 [] := ⟨zeroB_of (by kernel_rfl)⟩
instance : ByT 204 0 0 := ⟨by kernel_rfl⟩
instance : LyT 204 [] := ⟨by kernel_rfl⟩
instance : ZeT 205 [.nilFunc] := ⟨zeroB_of (by kernel_rfl)⟩
instance : ByT 205 1 8 := ⟨by kernel_rfl⟩
instance : ZeT 208 [.nilFunc] := ⟨zeroB_of (by kernel_rfl)⟩
instance : ByT 208 1 8 := ⟨by kernel_rfl⟩
instance : ZeT 210 [.int .i64 0, .int .i64 0, .int .u32 0, .int .u32 0] := ⟨zeroB_of (by kernel_rfl)⟩
instance : ByT 210 4 24 := ⟨by kernel_rfl⟩
instance : LyT 210 [(0, 1), (1, 1), (2, 1), (3, 1)] := ⟨by kernel_rfl⟩
instance : ZeT 211 [.nilFunc] := ⟨zeroB_of (by kernel_rfl)⟩
instance : ByT 211 1 8 := ⟨by kernel_rfl⟩
instance : ZeT 351 [.int .i64 0, .bool false, .int .i64 0, .int .u32 0] := ⟨zeroB_of (by kernel_rfl)⟩
instance : ByT 351 4 32 := ⟨by kernel_rfl⟩
instance : LyT 351 [(0, 1), (1, 1), (2, 1), (3, 1)] := ⟨by kernel_rfl⟩
instance : ZeT 248 [.int .i64 0, .int .i64 0] := ⟨zeroB_of (by kernel_rfl)⟩
instance : ByT 248 2 16 := ⟨by kernel_rfl⟩
instance : LyT 248 [(0, 1), (1, 1)] := ⟨by kernel_rfl⟩
instance : ZeT 349 [.slice none 0 0] := ⟨zeroB_of (by kernel_rfl)⟩
instance : ByT 349 1 24 := ⟨by kernel_rfl⟩
instance : ZeT 249 [.slice none 0 0] := ⟨zeroB_of (by kernel_rfl)⟩
instance : ByT 249 1 24 := ⟨by kernel_rfl⟩
instance : ZeT 251 [.slice none 0 0, .slice none 0 0, .int .i64 0] := ⟨zeroB_of (by kernel_rfl)⟩
instance : ByT 251 3 56 := ⟨by kernel_rfl⟩
instance : LyT 251 [(0, 1), (1, 1), (2, 1)] := ⟨by kernel_rfl⟩
instance : ZeT 235 [.slice none 0 0] := ⟨zeroB_of (by kernel_rfl)⟩
instance : ByT 235 1 24 := ⟨by kernel_rfl⟩
instance : ZeT 237 [.slice none 0 0] := ⟨zeroB_of (by kernel_rfl)⟩
instance : ByT 237 1 24 := ⟨by kernel_rfl⟩
instance : LyT 237 [(0, 1)] := ⟨by kernel_rfl⟩
instance : ZeT 346 [.nilFunc] := ⟨zeroB_of (by kernel_rfl)⟩
instance : ByT 346 1 8 := ⟨by kernel_rfl⟩
instance : ZeT 240 [.map none] := ⟨zeroB_of (by kernel_rfl)⟩
instance : ByT 240 1 8 := ⟨by kernel_rfl⟩
instance : ZeT 242 [.map none] := ⟨zeroB_of (by kernel_rfl)⟩
instance : ByT 242 1 8 := ⟨by kernel_rfl⟩
instance : LyT 242 [(0, 1)] := ⟨by kernel_rfl⟩
instance : ZeT 216 [.nilFunc] := ⟨zeroB_of (by kernel_rfl)⟩
instance : ByT 216 1 8 := ⟨by kernel_rfl⟩
instance : ZeT 218 [.nilFunc] := ⟨zeroB_of (by kernel_rfl)⟩
instance : ByT 218 1 8 := ⟨by kernel_rfl⟩
instance : ZeT 219 [.nilFunc] := ⟨zeroB_of (by kernel_rfl)⟩
instance : ByT 219 1 8 := ⟨by kernel_rfl⟩
instance : ZeT 220 [.nilFunc] := ⟨zeroB_of (by kernel_rfl)⟩
instance : ByT 220 1 8 := ⟨by kernel_rfl⟩
instance : ZeT 221 [.nilFunc] := ⟨zeroB_of (by kernel_rfl)⟩
instance : ByT 221 1 8 := ⟨by kernel_rfl⟩
instance : ZeT 222 [.nilFunc] := ⟨zeroB_of (by kernel_rfl)⟩
instance : ByT 222 1 8 := ⟨by kernel_rfl⟩
instance : ZeT 223 [.nilFunc] := ⟨zeroB_of (by kernel_rfl)⟩
instance : ByT 223 1 8 := ⟨by kernel_rfl⟩
instance : ZeT 224 [.nilFunc] := ⟨zeroB_of (by kernel_rfl)⟩
instance : ByT 224 1 8 := ⟨by kernel_rfl⟩
instance : ZeT 225 [.nilFunc] := ⟨zeroB_of (by kernel_rfl)⟩
instance : ByT 225 1 8 := ⟨by kernel_rfl⟩
instance : ZeT 226 [.nilFunc] := ⟨zeroB_of (by kernel_rfl)⟩
instance : ByT 226 1 8 := ⟨by kernel_rfl⟩
instance : ZeT 227 [.nilFunc] := ⟨zeroB_of (by kernel_rfl)⟩
instance : ByT 227 1 8 := ⟨by kernel_rfl⟩
instance : ZeT 228 [.nilFunc] := ⟨zeroB_of (by kernel_rfl)⟩
instance : ByT 228 1 8 := ⟨by kernel_rfl⟩
instance : ZeT 229 [.nilFunc] := ⟨zeroB_of (by kernel_rfl)⟩
instance : ByT 229 1 8 := ⟨by kernel_rfl⟩
instance : ZeT 193 [.nilFunc] := ⟨zeroB_of (by kernel_rfl)⟩
instance : ByT 193 1 8 := ⟨by kernel_rfl⟩
instance : ZeT 303 [.map none] := ⟨zeroB_of (by kernel_rfl)⟩
instance : ByT 303 1 8 := ⟨by kernel_rfl⟩
instance : ZeT 332 [.nilFunc] := ⟨zeroB_of (by kernel_rfl)⟩
instance : ByT 332 1 8 := ⟨by kernel_rfl⟩
instance : ZeT 292 [.nilFunc] := ⟨zeroB_of (by kernel_rfl)⟩
instance : ByT 292 1 8 := ⟨by kernel_rfl⟩
instance : ZeT 293 [.nilFunc] := ⟨zeroB_of (by kernel_rfl)⟩
instance : ByT 293 1 8 := ⟨by kernel_rfl⟩
instance : ZeT 284 [.nilFunc] := ⟨zeroB_of (by kernel_rfl)⟩
instance : ByT 284 1 8 := ⟨by kernel_rfl⟩
instance : ZeT 197 [.nilFunc] := ⟨zeroB_of (by kernel_rfl)⟩
instance : ByT 197 1 8 := ⟨by kernel_rfl⟩
instance : ZeT 195 [.nilFunc] := ⟨zeroB_of (by kernel_rfl)⟩
instance : ByT 195 1 8 := ⟨by kernel_rfl⟩
instance : ZeT 246 [.slice none 0 0, .slice none 0 0, .slice none 0 0, .bool false] := ⟨zeroB_of (by kernel_rfl)⟩
instance : ByT 246 4 80 := ⟨by kernel_rfl⟩
instance : LyT 246 [(0, 1), (1, 1), (2, 1), (3, 1)] := ⟨by kernel_rfl⟩
instance : ZeT 189 [.nilFunc] := ⟨zeroB_of (by kernel_rfl)⟩
instance : ByT 189 1 8 := ⟨by kernel_rfl⟩
instance : ZeT 190 [.nilFunc] := ⟨zeroB_of (by kernel_rfl)⟩
instance : ByT 190 1 8 := ⟨by kernel_rfl⟩
instance : ZeT 191 [.nilFunc] := ⟨zeroB_of (by kernel_rfl)⟩
instance : ByT 191 1 8 := ⟨by kernel_rfl⟩
instance : ZeT 192 [.nilFunc] := ⟨zeroB_of (by kernel_rfl)⟩
instance : ByT 192 1 8 := ⟨by kernel_rfl⟩
instance : ZeT 194 [.pointer none] := ⟨zeroB_of (by kernel_rfl)⟩
instance : ByT 194 1 8 := ⟨by kernel_rfl⟩
instance : ZeT 196 [.nilFunc] := ⟨zeroB_of (by kernel_rfl)⟩
instance : ByT 196 1 8 := ⟨by kernel_rfl⟩
instance : ZeT 252 [.slice none 0 0] := ⟨zeroB_of (by kernel_rfl)⟩
instance : ByT 252 1 24 := ⟨by kernel_rfl⟩
instance : ZeT 254 [.slice none 0 0, .slice none 0 0] := ⟨zeroB_of (by kernel_rfl)⟩
instance : ByT 254 2 48 := ⟨by kernel_rfl⟩
instance : LyT 254 [(0, 1), (1, 1)] := ⟨by kernel_rfl⟩
instance : ZeT 256 [.bool false, .int .i64 0, .int .i64 0, .int .i64 0, .int .i64 0] := ⟨zeroB_of (by kernel_rfl)⟩
instance : ByT 256 5 40 := ⟨by kernel_rfl⟩
instance : LyT 256 [(0, 1), (1, 1), (2, 1), (3, 1), (4, 1)] := ⟨by kernel_rfl⟩
instance : ZeT 257 [.slice none 0 0] := ⟨zeroB_of (by kernel_rfl)⟩
instance : ByT 257 1 24 := ⟨by kernel_rfl⟩
instance : ZeT 259 [.slice none 0 0, .slice none 0 0] := ⟨zeroB_of (by kernel_rfl)⟩
instance : ByT 259 2 48 := ⟨by kernel_rfl⟩
instance : LyT 259 [(0, 1), (1, 1)] := ⟨by kernel_rfl⟩
instance : ZeT 261 [.int .u8 0, .int .i64 0, .bool false] := ⟨zeroB_of (by kernel_rfl)⟩
instance : ByT 261 3 24 := ⟨by kernel_rfl⟩
instance : LyT 261 [(0, 1), (1, 1), (2, 1)] := ⟨by kernel_rfl⟩
instance : ZeT 262 [.slice none 0 0] := ⟨zeroB_of (by kernel_rfl)⟩
instance : ByT 262 1 24 := ⟨by kernel_rfl⟩
instance : ZeT 264 [.slice none 0 0, .slice none 0 0] := ⟨zeroB_of (by kernel_rfl)⟩
instance : ByT 264 2 48 := ⟨by kernel_rfl⟩
instance : LyT 264 [(0, 1), (1, 1)] := ⟨by kernel_rfl⟩
instance : ZeT 266 [.bool false, .bool false, .int .i64 0] := ⟨zeroB_of (by kernel_rfl)⟩
instance : ByT 266 3 16 := ⟨by kernel_rfl⟩
instance : LyT 266 [(0, 1), (1, 1), (2, 1)] := ⟨by kernel_rfl⟩
instance : ZeT 268 [.slice none 0 0, .slice none 0 0, .slice none 0 0, .bool false] := ⟨zeroB_of (by kernel_rfl)⟩
instance : ByT 268 4 80 := ⟨by kernel_rfl⟩
instance : LyT 268 [(0, 1), (1, 1), (2, 1), (3, 1)] := ⟨by kernel_rfl⟩
instance : ZeT 270 [.int .u8 0, .int .i64 0] := ⟨zeroB_of (by kernel_rfl)⟩
instance : ByT 270 2 16 := ⟨by kernel_rfl⟩
instance : LyT 270 [(0, 1), (1, 1)] := ⟨by kernel_rfl⟩
instance : ZeT 271 [.slice none 0 0] := ⟨zeroB_of (by kernel_rfl)⟩
instance : ByT 271 1 24 := ⟨by kernel_rfl⟩
instance : ZeT 273 [.slice none 0 0, .int .i64 0, .slice none 0 0] := ⟨zeroB_of (by kernel_rfl)⟩
instance : ByT 273 3 56 := ⟨by kernel_rfl⟩
instance : LyT 273 [(0, 1), (1, 1), (2, 1)] := ⟨by kernel_rfl⟩
instance : ZeT 274 [.nilFunc] := ⟨zeroB_of (by kernel_rfl)⟩
instance : ByT 274 1 8 := ⟨by kernel_rfl⟩
instance : ZeT 275 [.nilFunc] := ⟨zeroB_of (by kernel_rfl)⟩
instance : ByT 275 1 8 := ⟨by kernel_rfl⟩
instance : ZeT 277 [.slice none 0 0, .slice none 0 0, .bool false] := ⟨zeroB_of (by kernel_rfl)⟩
instance : ByT 277 3 56 := ⟨by kernel_rfl⟩
instance : LyT 277 [(0, 1), (1, 1), (2, 1)] := ⟨by kernel_rfl⟩
instance : ZeT 296 [.nilFunc] := ⟨zeroB_of (by kernel_rfl)⟩
instance : ByT 296 1 8 := ⟨by kernel_rfl⟩
instance : ZeT 297 [.nilFunc] := ⟨zeroB_of (by kernel_rfl)⟩
instance : ByT 297 1 8 := ⟨by kernel_rfl⟩
instance : ZeT 287 [.nilFunc] := ⟨zeroB_of (by kernel_rfl)⟩
instance : ByT 287 1 8 := ⟨by kernel_rfl⟩
instance : ZeT 288 [.nilFunc] := ⟨zeroB_of (by kernel_rfl)⟩
instance : ByT 288 1 8 := ⟨by kernel_rfl⟩
instance : ZeT 282 [.slice none 0 0] := ⟨zeroB_of (by kernel_rfl)⟩
instance : ByT 282 1 24 := ⟨by kernel_rfl⟩
instance : ZeT 283 [.nilFunc] := ⟨zeroB_of (by kernel_rfl)⟩
instance : ByT 283 1 8 := ⟨by kernel_rfl⟩
instance : ZeT 285 [.nilFunc] := ⟨zeroB_of (by kernel_rfl)⟩
instance : ByT 285 1 8 := ⟨by kernel_rfl⟩
instance : ZeT 295 [.nilFunc] := ⟨zeroB_of (by kernel_rfl)⟩
instance : ByT 295 1 8 := ⟨by kernel_rfl⟩
instance : ZeT 299 [.nilFunc] := ⟨zeroB_of (by kernel_rfl)⟩
instance : ByT 299 1 8 := ⟨by kernel_rfl⟩
instance : ZeT 347 [.nilFunc] := ⟨zeroB_of (by kernel_rfl)⟩
instance : ByT 347 1 8 := ⟨by kernel_rfl⟩
instance : ZeT 289 [.nilFunc] := ⟨zeroB_of (by kernel_rfl)⟩
instance : ByT 289 1 8 := ⟨by kernel_rfl⟩
instance : ZeT 290 [.nilFunc] := ⟨zeroB_of (by kernel_rfl)⟩
instance : ByT 290 1 8 := ⟨by kernel_rfl⟩
instance : ZeT 301 [.nilFunc] := ⟨zeroB_of (by kernel_rfl)⟩
instance : ByT 301 1 8 := ⟨by kernel_rfl⟩
instance : ZeT 304 [.nilFunc] := ⟨zeroB_of (by kernel_rfl)⟩
instance : ByT 304 1 8 := ⟨by kernel_rfl⟩
instance : ZeT 352 [.nilFunc] := ⟨zeroB_of (by kernel_rfl)⟩
instance : ByT 352 1 8 := ⟨by kernel_rfl⟩
instance : ZeT 298 [.nilFunc] := ⟨zeroB_of (by kernel_rfl)⟩
instance : ByT 298 1 8 := ⟨by kernel_rfl⟩
instance : ZeT 348 [.int .u8 0, .int .u8 0, .int .u8 0, .int .u8 0] := ⟨zeroB_of (by kernel_rfl)⟩
instance : ByT 348 4 4 := ⟨by kernel_rfl⟩
instance : ZeT 306 [.nilFunc] := ⟨zeroB_of (by kernel_rfl)⟩
instance : ByT 306 1 8 := ⟨by kernel_rfl⟩
instance : ZeT 308 [.nilFunc] := ⟨zeroB_of (by kernel_rfl)⟩
instance : ByT 308 1 8 := ⟨by kernel_rfl⟩
instance : ZeT 309 [.nilFunc] := ⟨zeroB_of (by kernel_rfl)⟩
instance : ByT 309 1 8 := ⟨by kernel_rfl⟩
instance : ZeT 315 [.int .u8 0] := ⟨zeroB_of (by kernel_rfl)⟩
instance : ByT 315 1 1 := ⟨by kernel_rfl⟩
instance : NuT 315 .u8 := ⟨by kernel_rfl⟩
instance : ZeT 316 [.int .u8 0] := ⟨zeroB_of (by kernel_rfl)⟩
instance : ByT 316 1 1 := ⟨by kernel_rfl⟩
instance : NuT 316 .u8 := ⟨by kernel_rfl⟩
instance : ZeT 317 [.nilFunc] := ⟨zeroB_of (by kernel_rfl)⟩
instance : ByT 317 1 8 := ⟨by kernel_rfl⟩
instance : ZeT 318 [.pointer none] := ⟨zeroB_of (by kernel_rfl)⟩
instance : ByT 318 1 8 := ⟨by kernel_rfl⟩
instance : ZeT 319 [.int .i32 0] := ⟨zeroB_of (by kernel_rfl)⟩
instance : ByT 319 1 4 := ⟨by kernel_rfl⟩
instance : NuT 319 .i32 := ⟨by kernel_rfl⟩
instance : ZeT 320 [.int .i32 0] := ⟨zeroB_of (by kernel_rfl)⟩
instance : ByT 320 1 4 := ⟨by kernel_rfl⟩
instance : NuT 320 .i32 := ⟨by kernel_rfl⟩
instance : ZeT 322 [.int .u64 0, .int .u64 0, .int .u32 0, .int .u8 0, .int .u8 0, .int .u8 0, .int .u8 0, .nilFunc, .pointer none, .int .i32 0, .int .i32 0] := ⟨zeroB_of (by kernel_rfl)⟩
instance : ByT 322 11 48 := ⟨by kernel_rfl⟩
instance : LyT 322 [(0, 1), (1, 1), (2, 1), (3, 1), (4, 1), (5, 1), (6, 1), (7, 1), (8, 1), (9, 1), (10, 1)] := ⟨by kernel_rfl⟩
instance : ZeT 325 [.int .i64 0, .int .i64 0, .int .u32 0, .int .u32 0] := ⟨zeroB_of (by kernel_rfl)⟩
instance : ByT 325 4 24 := ⟨by kernel_rfl⟩
instance : LyT 325 [(0, 1), (1, 1), (2, 1), (3, 1)] := ⟨by kernel_rfl⟩
instance : ZeT 327 [.nilFunc] := ⟨zeroB_of (by kernel_rfl)⟩
instance : ByT 327 1 8 := ⟨by kernel_rfl⟩
instance : ZeT 329 [.nilFunc] := ⟨zeroB_of (by kernel_rfl)⟩
instance : ByT 329 1 8 := ⟨by kernel_rfl⟩
instance : ZeT 330 [.nilFunc] := ⟨zeroB_of (by kernel_rfl)⟩
instance : ByT 330 1 8 := ⟨by kernel_rfl⟩
instance : ZeT 331 [.nilFunc] := ⟨zeroB_of (by kernel_rfl)⟩
instance : ByT 331 1 8 := ⟨by kernel_rfl⟩
instance : ZeT 333 [.nilFunc] := ⟨zeroB_of (by kernel_rfl)⟩
instance : ByT 333 1 8 := ⟨by kernel_rfl⟩
instance : ZeT 334 [.nilFunc] := ⟨zeroB_of (by kernel_rfl)⟩
instance : ByT 334 1 8 := ⟨by kernel_rfl⟩
instance : ZeT 335 [.nilFunc] := ⟨zeroB_of (by kernel_rfl)⟩
instance : ByT 335 1 8 := ⟨by kernel_rfl⟩
instance : ZeT 336 [.nilFunc] := ⟨zeroB_of (by kernel_rfl)⟩
instance : ByT 336 1 8 := ⟨by kernel_rfl⟩
instance : ZeT 337 [.nilFunc] := ⟨zeroB_of (by kernel_rfl)⟩
instance : ByT 337 1 8 := ⟨by kernel_rfl⟩
instance : ZeT 338 [.nilFunc] := ⟨zeroB_of (by kernel_rfl)⟩
instance : ByT 338 1 8 := ⟨by kernel_rfl⟩
instance : ZeT 339 [.slice none 0 0] := ⟨zeroB_of (by kernel_rfl)⟩
instance : ByT 339 1 24 := ⟨by kernel_rfl⟩
instance : ZeT 340 [.nilFunc] := ⟨zeroB_of (by kernel_rfl)⟩
instance : ByT 340 1 8 := ⟨by kernel_rfl⟩
instance : ZeT 341 [.nilFunc] := ⟨zeroB_of (by kernel_rfl)⟩
instance : ByT 341 1 8 := ⟨by kernel_rfl⟩
instance : ZeT 343 [.nilFunc] := ⟨zeroB_of (by kernel_rfl)⟩
instance : ByT 343 1 8 := ⟨by kernel_rfl⟩
instance : ZeT 345 [.nilFunc] := ⟨zeroB_of (by kernel_rfl)⟩
instance : ByT 345 1 8 := ⟨by kernel_rfl⟩
instance : ZeT 353 [.int .i64 0, .bool false, .int .i64 0, .int .u32 0] := ⟨zeroB_of (by kernel_rfl)⟩
instance : ByT 353 4 32 := ⟨by kernel_rfl⟩
instance : LyT 353 [(0, 1), (1, 1), (2, 1), (3, 1)] := ⟨by kernel_rfl⟩
instance : ZeT 355 [.int .i64 0, .int .i64 0, .bool false, .int .i64 0, .int .u32 0] := ⟨zeroB_of (by kernel_rfl)⟩
instance : ByT 355 5 40 := ⟨by kernel_rfl⟩
instance : LyT 355 [(0, 1), (1, 4)] := ⟨by kernel_rfl⟩
instance : ZeT 356 [.pointer none] := ⟨zeroB_of (by kernel_rfl)⟩
instance : ByT 356 1 8 := ⟨by kernel_rfl⟩
end
section
def quietOp : Op → Bool
 | .assign _ | .pick .. | .load .. | .nilCheck _ | .binOp .. | .unOp .. | .convert .. | .fieldAddr .. | .field .. | .indexAddr .. | .index .. | .extract .. | .build .. | .makeFunc .. => true
 | .call c => match c.callee with
  | .builtin .len => true
  | _ => false
 | _ => false
def softOp (op : Op) : Bool := quietOp op || match op with
 | .move _ => true
 | _ => false
def allocOp : Op → Bool
 | .alloc _ | .box .. | .buildSlice .. | .makeSlice .. => true
 | _ => false
def zOf (ops : Array Oper) : List Nat := (List.range ops.size).filter fun i => match ops[i]? with
 | some o => quietOp o.op && (List.range ops.size).all fun j => !((closeM ops ops.size (predM o)).testBit j) || match ops[j]? with
  | some p => softOp p.op || allocOp p.op
  | none => true
 | none => false
def SelU (used : List Nat) (H H' : List HP) : Prop := ∃ is : List Nat, selB is H = some H' ∧ is.Nodup ∧ ∀ i ∈ is, i ∉ used
theorem SelU.nil {used : List Nat} {H : List HP} : SelU used H [] := ⟨[], rfl, List.nodup_nil, fun _ h => by cases h⟩
theorem SelU.cons (i : Nat) {used : List Nat} {H r : List HP} {p : HP} (hu : i ∉ used) (hi : H[i]? = some p) (h : SelU (i :: used) H r) : SelU used H (p :: r) := by
 obtain ⟨is, h1, h2, h3⟩ := h
 refine ⟨i :: is, ?_, List.nodup_cons.2 ⟨fun hm => h3 i hm (by simp), h2⟩, fun j hj => ?_⟩
 ·unfold selB
  rw [hi, h1]
 ·rcases List.mem_cons.1 hj with rfl | hj
  ·exact hu
  ·exact fun hm => h3 j hj (by simp [hm])
theorem SelU.auto {H H' : List HP} (h : SelU [] H H' := by
  repeat (first | exact SelU.nil | refine SelU.cons 0 (by decide) rfl ?_ | refine SelU.cons 1 (by decide) rfl ?_ | refine SelU.cons 2 (by decide) rfl ?_ | refine SelU.cons 3 (by decide) rfl ?_ | refine SelU.cons 4 (by decide) rfl ?_ | refine SelU.cons 5 (by decide) rfl ?_ | refine SelU.cons 6 (by decide) rfl ?_ | refine SelU.cons 7 (by decide) rfl ?_ | refine SelU.cons 8 (by decide) rfl ?_ | refine SelU.cons 9 (by decide) rfl ?_ | refine SelU.cons 10 (by decide) rfl ?_ | refine SelU.cons 11 (by decide) rfl ?_ | refine SelU.cons 12 (by decide) rfl ?_ | refine SelU.cons 13 (by decide) rfl ?_ | refine SelU.cons 14 (by decide) rfl ?_ | refine SelU.cons 15 (by decide) rfl ?_)) : SelU [] H H' := h
section
variable {P : Program} {N : Frm} {w0 : World} {e e' : Env} {R R' : List Piece} {H H' : List HP} {Q : Exit → Act → World → Prop} {α : Type}
def LpK (N : Frm) (w0 : World) (n : Nat) (E : Nat → α → Env) (R : List Piece) (C : Nat → α → List HP) (G : Nat → α → Prop) (i : Nat) : Act → World → Prop := fun a w => ∃ x, i < n ∧ G (i + 1) x ∧ Rep N (E (i + 1) x) a ∧ St w0 R (C (i + 1) x) w
theorem XK.lp {c : Code} (E : Nat → α → Env) (C : Nat → α → List HP) (G : Nat → α → Prop) (n : Nat) (x0 : α) (h0 : G 0 x0) (hr : ∀ i x, i ≤ n → G i x → XK N w0 (c.wp P (Exit.then (LpK N w0 n E R C G i) Q)) (E i x) R (C i x))
  (hE : (E 0 x0).Sub e := by repeat (first | exact trivial | refine ⟨rfl, ?_⟩)) (hC : SelU [] H (C 0 x0) := by exact SelU.auto) : XK N w0 ((Code.loop c).wp P Q) e R H := by
 obtain ⟨is, h1, h2, _⟩ := hC
 refine XK.env (E 0 x0) hE (XK.weak is h1 h2 (fun _ h => h) ?_)
 refine XK.loop (fun m e R' H' => ∃ i x, i ≤ n ∧ m = n - i ∧ G i x ∧ e = E i x ∧ R' = R ∧ H' = C i x) n ⟨0, x0, by omega, rfl, h0, rfl, rfl, rfl⟩ fun m e R' H' hI => ?_
 obtain ⟨i, x, hi, rfl, hg, rfl, rfl, rfl⟩ := hI
 intro a w hrp st
 refine wp_mono (hr i x hi hg a w hrp st) fun y a' w' hq => ?_
 cases y with
 | normal =>
  obtain ⟨x', hl, hg', hr', st'⟩ := hq
  exact ⟨n - (i + 1), _, _, _, ⟨by omega, i + 1, x', by omega, rfl, hg', rfl, rfl, rfl⟩, hr', st'⟩
 | _ => exact hq
theorem XK.ag {n i : Nat} {E : Nat → α → Env} {C : Nat → α → List HP} {G : Nat → α → Prop} (x : α) (hE : (E (i + 1) x).Sub e := by repeat (first | exact trivial | refine ⟨rfl, ?_⟩)) (hs : SelU [] H (C (i + 1) x) := by exact SelU.auto) (hR : ∀ p ∈ R', p ∈ R := by first | exact fun _ h => h | simp) (hi : i < n := by omega) (hg : G (i + 1) x := by first | trivial | omega | assumption | (simp; done)) : XK N w0 (LpK N w0 n E R' C G i) e R H := by
 obtain ⟨is, h1, h2, _⟩ := hs
 exact XK.env _ hE (XK.weak is h1 h2 hR fun a w hr st => ⟨x, hi, hg, hr, st⟩)
def CtK (N : Frm) (w0 : World) (E : α → Env) (R : List Piece) (C : α → List HP) (G : α → Prop) : Act → World → Prop := fun a w => ∃ x, G x ∧ Rep N (E x) a ∧ St w0 R (C x) w
theorem XK.ct {x y : Code} (E : α → Env) (C : α → List HP) (G : α → Prop) (h : XK N w0 (x.wp P (Exit.then (CtK N w0 E R C G) Q)) e R H) (hy : ∀ z, G z → XK N w0 (y.wp P Q) (E z) R (C z)) : XK N w0 ((Code.seq x y).wp P Q) e R H := fun a w hr st => by
 refine wp_seq (wp_mono (h a w hr st) fun y' a' w' hq => ?_)
 cases y' with
 | normal =>
  obtain ⟨z, hg, hr', st'⟩ := hq
  exact hy z hg a' w' hr' st'
 | _ => exact hq
theorem XK.cu {x : Code} {K : Act → World → Prop} (E : α → Env) (C : α → List HP) (G : α → Prop) (h : XK N w0 (x.wp P (Exit.then (CtK N w0 E R C G) Q)) e R H) (hy : ∀ z, G z → XK N w0 K (E z) R (C z)) : XK N w0 (x.wp P (Exit.then K Q)) e R H := fun a w hr st => by
 refine wp_mono (h a w hr st) fun y' a' w' hq => ?_
 cases y' with
 | normal =>
  obtain ⟨z, hg, hr', st'⟩ := hq
  exact hy z hg a' w' hr' st'
 | _ => exact hq
theorem XK.cb {id : Nat} {x : Code} {K : Act → World → Prop} (E : α → Env) (C : α → List HP) (G : α → Prop) (h : XK N w0 (x.wp P (Exit.inBlock id (Exit.then (CtK N w0 E R C G) Q))) e R H) (hy : ∀ z, G z → XK N w0 K (E z) R (C z)) : XK N w0 (x.wp P (Exit.inBlock id (Exit.then K Q))) e R H := fun a w hr st => by
 have key : ∀ ex a' w', Exit.then (CtK N w0 E R C G) Q ex a' w' → Exit.then K Q ex a' w' := fun ex a' w' hq => by
  cases ex with
  | normal =>
   obtain ⟨z, hg, hr', st'⟩ := hq
   exact hy z hg a' w' hr' st'
  | _ => exact hq
 refine wp_mono (h a w hr st) fun ex a' w' hq => ?_
 cases ex with
 | exit j =>
  by_cases hj : j = id
  ·simp only [Exit.inBlock, if_pos hj] at hq ⊢
   exact key _ _ _ hq
  ·simp only [Exit.inBlock, if_neg hj] at hq ⊢
   exact key _ _ _ hq
 | normal => exact key .normal a' w' hq
 | goto l => exact key (.goto l) a' w' hq
 | ret => exact key .ret a' w' hq
 | panic c => exact key (.panic c) a' w' hq
 | outgrown => exact key .outgrown a' w' hq
theorem XK.c2 {x y z : Code} (E : α → Env) (C : α → List HP) (G : α → Prop) (h : XK N w0 (x.wp P (Exit.then (y.wp P (Exit.then (CtK N w0 E R C G) Q)) Q)) e R H) (hy : ∀ v, G v → XK N w0 (z.wp P Q) (E v) R (C v)) : XK N w0 ((Code.seq x (Code.seq y z)).wp P Q) e R H := fun a w hr st => by
 refine wp_seq (wp_mono (h a w hr st) fun ex a' w' hq => ?_)
 cases ex with
 | normal =>
  refine wp_seq (wp_mono hq fun ex a2 w2 hq2 => ?_)
  cases ex with
  | normal =>
   obtain ⟨v, hg, hr', st'⟩ := hq2
   exact hy v hg a2 w2 hr' st'
  | _ => exact hq2
 | _ => exact hq
theorem XK.mt {E : α → Env} {C : α → List HP} {G : α → Prop} (x : α) (hE : (E x).Sub e := by repeat (first | exact trivial | refine ⟨rfl, ?_⟩)) (hs : SelU [] H (C x) := by exact SelU.auto) (hR : ∀ p ∈ R', p ∈ R := by first | exact fun _ h => h | simp) (hg : G x := by first | trivial | omega | assumption | (simp; done)) : XK N w0 (CtK N w0 E R' C G) e R H := by
 obtain ⟨is, h1, h2, _⟩ := hs
 exact XK.env _ hE (XK.weak is h1 h2 hR fun a w hr st => ⟨x, hg, hr, st⟩)
end
section
variable {N : Frm} {w0 : World} {e e' : Env} {R R' R0 R0' : List Piece} {H H' H0 : List HP} {m fuel fuel' i : Nat} {listed listed' : Array Bool} {Q : Exit → Act → World → Prop} {ops : Array Oper} {rest : List Oper} {K K' : Act → World → Prop} {Z : List Nat}
variable {d : Nat} {ty : TypeId} {pos : String} {aft : Array Edge} {op : Op} {j t : Nat} {want : Bool} {o : Oper} {v : Value}
theorem does_bu {t : TypeId} {ps : List (Nat × Operand)} {vs : List (Nat × Value)} {zs cs : List Value} {L : List (Nat × Nat)} [hZ : ZeT t zs] [hL : LyT t L] (hp : e.parts ps = some vs) (hf : fillL L zs vs = some cs := by first | (simp [fillL, setN, Value.cells]; done) | (simp [fillL, setN, Value.cells]; rfl) | rfl) :
  Does Tryz.prog N w0 e R H ⟨some d, .build t ps.toArray, ty, pos, aft, none⟩ (.agg cs.toArray) := does_buildS hZ.h hL.h hp hf
theorem does_ix {x ix : Operand} {t el : TypeId} {b off n c sz o : Nat} {kd : IntKind} {j : Int} [hT : SlT t el sz] (hx : e.ev x = some (.slice (some ⟨b, off, none⟩) n c)) (hi : e.ev ix = some (.int kd j)) (hlt : 0 ≤ j ∧ j < (n : Int) := by omega)
  (ho : off + j.toNat * sz = o := by first | (simp only [Int.toNat_natCast, Int.reduceToNat, Nat.mul_one, Nat.zero_add, Nat.reduceMul, Nat.reduceAdd]; rfl) | rfl) : Does Tryz.prog N w0 e R H ⟨some d, .indexAddr t x ix, ty, pos, aft, none⟩ (.pointer (some ⟨b, o, none⟩)) := dat j.toNat o hx hi (by omega) (by omega) ho
theorem does_iA {x ix : Operand} {t el : TypeId} {b off n sz o : Nat} {kd : IntKind} {j : Int} [hT : ArT t n el sz] (hx : e.ev x = some (.pointer (some ⟨b, off, none⟩))) (hi : e.ev ix = some (.int kd j)) (hlt : 0 ≤ j ∧ j < (n : Int) := by omega)
  (ho : off + j.toNat * sz = o := by first | (simp only [Int.toNat_natCast, Int.reduceToNat, Nat.mul_one, Nat.zero_add, Nat.reduceMul, Nat.reduceAdd]; rfl) | rfl) : Does Tryz.prog N w0 e R H ⟨some d, .indexAddr t x ix, ty, pos, aft, none⟩ (.pointer (some ⟨b, o, none⟩)) := datA j.toNat o hx hi (by omega) (by omega) ho
theorem does_cv {x : Operand} {kd ks : IntKind} {i c : Int} {src dst : TypeId} [hs : NuT src ks] [ht : NuT dst kd] (hx : e.ev x = some (.int ks i)) (hw : kd.wrap i = c := by first | exact wrap_in (by omega) | exact wrap_u64 (by omega) | exact wrap_u32 (by omega) | rfl) : Does Tryz.prog N w0 e R H ⟨some d, .convert src dst x, ty, pos, aft, none⟩ (.int kd c) := does_conv hs.h ht.h hx hw
theorem sh_build {t : TypeId} {x : Array (Nat × Operand)} (h : Does Tryz.prog N w0 e R H ⟨some d, .build t x, ty, pos, aft, none⟩ v) : Does Tryz.prog N w0 e R H ⟨some d, .build t x, ty, pos, aft, none⟩ v := h
theorem sh_indexAddr {x y : Operand} {t : TypeId} (h : Does Tryz.prog N w0 e R H ⟨some d, .indexAddr t x y, ty, pos, aft, none⟩ v) : Does Tryz.prog N w0 e R H ⟨some d, .indexAddr t x y, ty, pos, aft, none⟩ v := h
theorem sh_convert {x : Operand} {s t : TypeId} (h : Does Tryz.prog N w0 e R H ⟨some d, .convert s t x, ty, pos, aft, none⟩ v) : Does Tryz.prog N w0 e R H ⟨some d, .convert s t x, ty, pos, aft, none⟩ v := h
theorem sh_makeFunc {fn : Fn} {x y : Array Operand} (h : Does Tryz.prog N w0 e R H ⟨some d, .makeFunc fn x y, ty, pos, aft, none⟩ v) : Does Tryz.prog N w0 e R H ⟨some d, .makeFunc fn x y, ty, pos, aft, none⟩ v := h
theorem Rd.dw {b o : Nat} {ds : List Int} (hd : Draw ds) (ho : o < 120) (hi : ∃ (i : Nat) (t : TypeId), H[i]? = some (HP.blk b t (intCells ds)) := by
  first | exact ⟨0, _, rfl⟩ | exact ⟨1, _, rfl⟩ | exact ⟨2, _, rfl⟩ | exact ⟨3, _, rfl⟩ | exact ⟨4, _, rfl⟩ | exact ⟨5, _, rfl⟩ | exact ⟨6, _, rfl⟩ | exact ⟨7, _, rfl⟩ | exact ⟨8, _, rfl⟩ | exact ⟨9, _, rfl⟩ | exact ⟨10, _, rfl⟩ | exact ⟨11, _, rfl⟩ | exact ⟨12, _, rfl⟩) : Rd w0 R H b o (.int .i64 (dv ds o % 1000000)) := by
 rw [Int.emod_eq_of_lt (hd.bd o).1 (hd.bd o).2]
 exact Rd.anyB (hd.at_ o ho) hi
theorem does_by {x ix : Operand} {t : TypeId} {s : ByteArray} {kd : IntKind} {i : Nat} {j : Int} {b : UInt8} (hx : e.ev x = some (.string s)) (hi : e.ev ix = some (.int kd j)) (hb : s[i]? = some b) (ht : Tryz.prog.underlying t = some .string := by kernel_rfl) (hj : j = (i : Int) := by omega) : Does Tryz.prog N w0 e R H ⟨some d, .index t x ix, ty, pos, aft, none⟩ (.int .u8 b.toNat) := does_byte i ht hx hi hj hb
theorem sh_index {x y : Operand} {t : TypeId} (h : Does Tryz.prog N w0 e R H ⟨some d, .index t x y, ty, pos, aft, none⟩ v) : Does Tryz.prog N w0 e R H ⟨some d, .index t x y, ty, pos, aft, none⟩ v := h
theorem does_p0 {x : Operand} {t u : TypeId} (hx : e.ev x = some (.pointer none)) (ht : Tryz.prog.underlying t = some (.pointer (Tryz.prog.pointee t)) := by kernel_rfl) : Does Tryz.prog N w0 e R H ⟨some d, .binOp .neq t x (.const (.pointer none)) u, ty, pos, aft, none⟩ (.bool false) := does_of fun a w hr => by
 have h2 := hr.ev (show e.ev (.const (.pointer none)) = some (.pointer none) from rfl)
 simp [execOp, hr.ev hx, h2, eqGuard, run_neq_pointer_nil w t none ht]
theorem dz (h : Does Tryz.prog N w0 e R H o v := by
  first
  | ((with_reducible apply sh_move); exact does_move rfl)
  | ((with_reducible apply sh_assign); exact does_assign rfl)
  | ((with_reducible apply sh_load); (first | exact does_ld1 rfl | exact does_ldA rfl | exact does_ldS rfl | exact does_ld1 rfl (Rd.own 0 rfl (by assumption)) | exact does_ld1 rfl (Rd.own 1 rfl (by assumption)) | exact does_ld1 rfl (Rd.own 2 rfl (by assumption)) | exact does_ld1 rfl (Rd.own 3 rfl (by assumption)) | exact does_ld1 rfl (Rd.own 4 rfl (by assumption)) | exact does_ld1 rfl (Rd.blk 9 rfl rfl) | exact does_ld1 rfl (Rd.blk 10 rfl rfl) | exact does_ld1 rfl (Rd.blk 11 rfl rfl) | exact does_ld1 rfl (Rd.dw (by assumption) (by omega))))
  | ((with_reducible apply sh_fieldAddr); exact does_fd rfl)
  | ((with_reducible apply sh_indexAddr); (first | exact does_ix rfl rfl | exact does_iA rfl rfl))
  | ((with_reducible apply sh_nilCheck); exact does_nilC rfl)
  | ((with_reducible apply sh_pick); (first | exact does_pickT rfl rfl | exact does_pickF rfl rfl))
  | ((with_reducible apply sh_binOp); (first | exact does_lss rfl rfl | exact does_leq rfl rfl | exact does_gtr rfl rfl | exact does_geq rfl rfl | exact does_eql rfl rfl | exact does_neq rfl rfl | exact does_add rfl rfl (wrap_in (by omega)) | exact does_sub rfl rfl (wrap_in (by omega)) | exact does_mul rfl rfl (wrap_in (by omega)) | exact does_rem rfl rfl (by omega) (rem_in (by omega)) | exact does_quo rfl rfl (by omega) (quo_in (by omega) (by omega) (by omega)) | exact does_quo rfl rfl (by omega) (wrap_in (by assumption)) | exact does_pN rfl | exact does_pS rfl | exact does_p0 rfl | exact does_pn rfl | exact does_neqB (by kernel_rfl) rfl rfl | exact does_eqlB (by kernel_rfl) rfl rfl))
  | ((with_reducible apply sh_unOp); (first | exact does_notD rfl | exact does_not rfl | exact does_neg rfl (wrap_in (by omega))))
  | ((with_reducible apply sh_len); exact does_ln rfl)
  | ((with_reducible apply sh_extract); exact does_extract rfl rfl)
  | ((with_reducible apply sh_field); exact does_f1 rfl rfl)
  | ((with_reducible apply sh_build); exact does_bu rfl)
  | ((with_reducible apply sh_convert); exact does_cv rfl)
  | ((with_reducible apply sh_index); exact does_by rfl rfl (by assumption))
  | ((with_reducible apply sh_makeFunc); exact does_func rfl rfl)) : Does Tryz.prog N w0 e R H o v := h
theorem kz (k : XK N w0 (wpList Tryz.prog ops Q rest) ((d, v) :: e) R H) (h : Does Tryz.prog N w0 e R H ⟨some d, op, ty, pos, aft, none⟩ v := by exact dz) (hd : d < N.n := by decide) : XK N w0 (wpList Tryz.prog ops Q (⟨some d, op, ty, pos, aft, none⟩ :: rest)) e R H := kd h k hd
theorem kal {t : TypeId} {cs : List Value} [hZ : ZeT t cs] (k : ∀ g, XK N w0 (wpList Tryz.prog ops Q rest) ((d, .pointer (some ⟨g, 0, none⟩)) :: e) R (HP.blk g t cs :: H)) (hd : d < N.n := by decide) : XK N w0 (wpList Tryz.prog ops Q (⟨some d, .alloc t, ty, pos, aft, none⟩ :: rest)) e R H := xk_alloc hZ.h hd k
theorem kbx {x : Operand} {t : TypeId} {cs : List Value} (k : ∀ g, XK N w0 (wpList Tryz.prog ops Q rest) ((d, .pointer (some ⟨g, 0, none⟩)) :: e) R (HP.blk g t cs :: H)) (hx : e.ev x = some v := by rfl) (hc : v.cells.toList = cs := by first | (simp only [Value.cells, List.toList_toArray]; rfl) | rfl) (hd : d < N.n := by decide) : XK N w0 (wpList Tryz.prog ops Q (⟨some d, .box t x, ty, pos, aft, none⟩ :: rest)) e R H := by
 subst hc
 exact xk_box hx hd k
theorem ksl {t el : TypeId} {n sz : Nat} {ps : List (Nat × Operand)} {vs : List (Nat × Value)} {zs cs : List Value} [hT : SlT t el sz] [hZ : ZeT el zs] (k : ∀ g, XK N w0 (wpList Tryz.prog ops Q rest) ((d, .slice (some ⟨g, 0, none⟩) n n) :: e) R (HP.blk g el cs :: H)) (hp : e.parts ps = some vs := by rfl) (hzs : zs.length = sz := by rfl) (hpos : 0 < n * sz := by decide) (hsm : n * sz ≤ 16777216 := by decide)
  (hf : fillL ((List.range n).map fun i => (i * sz, sz)) ((List.range (n * sz)).map fun i => zs.getD (i % sz) undef) vs = some cs := by first | (simp [fillL, setN, Value.cells, List.range_succ, List.set]; done) | (simp [fillL, setN, Value.cells, List.range_succ, List.set]; rfl) | rfl) (hd : d < N.n := by decide) : XK N w0 (wpList Tryz.prog ops Q (⟨some d, .buildSlice t n ps.toArray, ty, pos, aft, none⟩ :: rest)) e R H :=
 xk_slice hT.h hZ.h hT.s hzs hpos hsm hp hf hd k
theorem kap (i : Nat) {x y : Operand} {t el : TypeId} {sz bytes n m c' g : Nat} {v : Value} {xs news : List Value} [hT : SlT t el sz] [hB : ByT el sz bytes] (k : ∀ A' k', XK N w0 (wpList Tryz.prog ops Q rest) ((d, .slice A' (n + m) k') :: e) R (H.set i (HP.own el sz (.slice A' (n + m) k') (n + m) (xs ++ news)))) (hi : H[i]? = some (HP.own el sz v n xs) := by rfl) (hx : e.ev x = some v := by rfl) (hy : e.ev y = some (.slice (some ⟨g, 0, none⟩) m c') := by rfl)
  (hs : H[0]? = some (HP.blk g el news) := by rfl) (hl : news.length = m * sz := by rfl) (h1 : ∀ u ∈ news, u.oneCell' = true := by simp [Value.oneCell']) (h63 : n + m ≤ 1000000 := by omega) (hb : bytes ≤ 1000 := by decide) (hpos : 0 < sz := by decide) (hd : d < N.n := by decide) :
  XK N w0 (wpList Tryz.prog ops Q (⟨some d, .call { callee := .builtin .append, args := #[x, y], argTypes := #[t, t] }, ty, pos, aft, none⟩ :: rest)) e R H :=
 xk_appendT i sz bytes m hT.h hB.h hpos hi hx hy (sl_blk 0 hs hl) h1 rfl (by omega) (by have := Nat.mul_le_mul h63 hb; omega) hd k
theorem XB.doF (i : Nat) {b : Bool} (hi : ops[i]? = some ⟨some d, op, ty, pos, aft, some (j, want)⟩) (hj : (ops[j]?).bind (·.dst) = some t) (ht : e.get t = some (.bool b)) (hb : b = !want) (hd : d < N.n)
  (hc : (Region.free .any ops listed i && (Region.ready .any ops listed).contains i && Z.contains i) = true) (hQ : ∀ c a w, Q (.panic c) (a.put (some d) undef) w → Q (.panic c) a w) (hsub : ∀ w, St w0 R H w → St w0 R0 H0 w)
  (k : XB Tryz.prog N w0 ops Q R0 H0 Z fuel (listed.setIfInBounds i true) ((d, undef) :: e) R H) : XB Tryz.prog N w0 ops Q R0 H0 Z (fuel + 1) listed e R H := by
 simp only [Bool.and_eq_true] at hc
 obtain ⟨⟨h2, h3⟩, h5⟩ := hc
 intro up a w hr st
 have hp := k (up.set_ (by simpa using h3)) (a.put (some d) undef) w (hr.put hd undef) st
 refine wpAnyY_first hi (Region.noSelect_spec up.sel) hQ (by simpa using h5) fuel listed a w up.down (Region.free_spec hi h2) (by simpa using h3) (.inr ⟨?_, rfl⟩) (hsub w st) hp
 simp only [Region.wanted, yielded, hj, Option.bind_some, hr.get t _ ht, hb]
 simp
theorem XB.doU (i : Nat) (hi : ops[i]? = some ⟨some d, op, ty, pos, aft, some (j, want)⟩) (hj : (ops[j]?).bind (·.dst) = some t) (ht : e.get t = some undef) (hd : d < N.n)
  (hc : (Region.free .any ops listed i && (Region.ready .any ops listed).contains i && Z.contains i) = true) (hQ : ∀ c a w, Q (.panic c) (a.put (some d) undef) w → Q (.panic c) a w) (hsub : ∀ w, St w0 R H w → St w0 R0 H0 w)
  (k : XB Tryz.prog N w0 ops Q R0 H0 Z fuel (listed.setIfInBounds i true) ((d, undef) :: e) R H) : XB Tryz.prog N w0 ops Q R0 H0 Z (fuel + 1) listed e R H := by
 simp only [Bool.and_eq_true] at hc
 obtain ⟨⟨h2, h3⟩, h5⟩ := hc
 intro up a w hr st
 have hp := k (up.set_ (by simpa using h3)) (a.put (some d) undef) w (hr.put hd undef) st
 refine wpAnyY_first hi (Region.noSelect_spec up.sel) hQ (by simpa using h5) fuel listed a w up.down (Region.free_spec hi h2) (by simpa using h3) (.inr ⟨?_, rfl⟩) (hsub w st) hp
 simp only [Region.wanted, yielded, hj, Option.bind_some, hr.get t _ ht]
 simp [undef]
def XL (i : Nat) (N : Frm) (w0 : World) (ops : Array Oper) (Q : Exit → Act → World → Prop) (R0 : List Piece) (H0 : List HP) (Z : List Nat) (fuel : Nat) (listed : Array Bool) (e : Env) (R : List Piece) (H : List HP) : Prop := XB Tryz.prog N w0 ops Q R0 H0 Z fuel listed e R H
theorem XL.q (k : XL (i + 1) N w0 ops Q R0 H0 Z fuel (listed.setIfInBounds i true) ((d, v) :: e) R H) (hz : (Z.contains i && (Region.ready .any ops listed).contains i) = true := by decide +kernel) (hi : ops[i]? = some ⟨some d, op, ty, pos, aft, none⟩ := by rfl) (hdo : Does Tryz.prog N w0 e R0 H0 ⟨some d, op, ty, pos, aft, none⟩ v := by exact dz) (hd : d < N.n := by decide)
  (hc : (Region.free .any ops listed i && (Region.ready .any ops listed).contains i && Z.contains i) = true := by kernel_rfl) (hQ : ∀ c a w, Q (.panic c) (a.put (some d) v) w → Q (.panic c) a w := by first | exact fun _ _ _ h => h | exact fun _ _ _ h => putD rfl h)
  (hsub : ∀ w, St w0 R H w → St w0 R0 H0 w := by first | exact fun _ h => h | exact fun _ h => h.tail) : XL i N w0 ops Q R0 H0 Z (fuel + 1) listed e R H := XB.do_ i hi rfl rfl hd hdo hc hQ hsub k
theorem XL.qT (k : XL (i + 1) N w0 ops Q R0 H0 Z fuel (listed.setIfInBounds i true) ((d, v) :: e) R H) (hz : (Z.contains i && (Region.ready .any ops listed).contains i) = true := by decide +kernel) (hi : ops[i]? = some ⟨some d, op, ty, pos, aft, some (j, want)⟩ := by rfl) (hj : (ops[j]?).bind (·.dst) = some t := by rfl) (ht : e.get t = some (.bool want) := by rfl) (hdo : Does Tryz.prog N w0 e R0 H0 ⟨some d, op, ty, pos, aft, none⟩ v := by exact dz) (hd : d < N.n := by decide)
  (hc : (Region.free .any ops listed i && (Region.ready .any ops listed).contains i && Z.contains i) = true := by kernel_rfl) (hQ : ∀ c a w, Q (.panic c) (a.put (some d) v) w → Q (.panic c) a w := by first | exact fun _ _ _ h => h | exact fun _ _ _ h => putD rfl h)
  (hsub : ∀ w, St w0 R H w → St w0 R0 H0 w := by first | exact fun _ h => h | exact fun _ h => h.tail) : XL i N w0 ops Q R0 H0 Z (fuel + 1) listed e R H := XB.doT i hi hj ht hd hdo hc hQ hsub k
theorem XL.qF {b : Bool} (k : XL (i + 1) N w0 ops Q R0 H0 Z fuel (listed.setIfInBounds i true) ((d, undef) :: e) R H) (hz : (Z.contains i && (Region.ready .any ops listed).contains i) = true := by decide +kernel) (hi : ops[i]? = some ⟨some d, op, ty, pos, aft, some (j, want)⟩ := by rfl) (hj : (ops[j]?).bind (·.dst) = some t := by rfl) (ht : e.get t = some (.bool b) := by rfl) (hb : b = !want := by rfl) (hd : d < N.n := by decide)
  (hc : (Region.free .any ops listed i && (Region.ready .any ops listed).contains i && Z.contains i) = true := by kernel_rfl) (hQ : ∀ c a w, Q (.panic c) (a.put (some d) undef) w → Q (.panic c) a w := by first | exact fun _ _ _ h => h | exact fun _ _ _ h => putD rfl h)
  (hsub : ∀ w, St w0 R H w → St w0 R0 H0 w := by first | exact fun _ h => h | exact fun _ h => h.tail) : XL i N w0 ops Q R0 H0 Z (fuel + 1) listed e R H := XB.doF i hi hj ht hb hd hc hQ hsub k
theorem XL.qU (k : XL (i + 1) N w0 ops Q R0 H0 Z fuel (listed.setIfInBounds i true) ((d, undef) :: e) R H) (hz : (Z.contains i && (Region.ready .any ops listed).contains i) = true := by decide +kernel) (hi : ops[i]? = some ⟨some d, op, ty, pos, aft, some (j, want)⟩ := by rfl) (hj : (ops[j]?).bind (·.dst) = some t := by rfl) (ht : e.get t = some undef := by rfl) (hd : d < N.n := by decide)
  (hc : (Region.free .any ops listed i && (Region.ready .any ops listed).contains i && Z.contains i) = true := by kernel_rfl) (hQ : ∀ c a w, Q (.panic c) (a.put (some d) undef) w → Q (.panic c) a w := by first | exact fun _ _ _ h => h | exact fun _ _ _ h => putD rfl h)
  (hsub : ∀ w, St w0 R H w → St w0 R0 H0 w := by first | exact fun _ h => h | exact fun _ h => h.tail) : XL i N w0 ops Q R0 H0 Z (fuel + 1) listed e R H := XB.doU i hi hj ht hd hc hQ hsub k
theorem XL.mo {y : Operand} (k : XL (i + 1) N w0 ops Q R0 H0 Z fuel (listed.setIfInBounds i true) ((d, v) :: e) R H) (hi : ops[i]? = some ⟨some d, .move y, ty, pos, aft, none⟩ := by rfl) (hx : e.ev y = some v := by rfl) (hd : d < N.n := by decide)
  (hc : (Region.free .any ops listed i && (Region.ready .any ops listed).contains i) = true := by kernel_rfl) (hQ : ∀ c a w, Q (.panic c) (a.put (some d) v) w → Q (.panic c) a w := by first | exact fun _ _ _ h => h | exact fun _ _ _ h => putD rfl h) : XL i N w0 ops Q R0 H0 Z (fuel + 1) listed e R H := XB.pure i (by simp [moveB, hi]) hi rfl rfl hd (fun a w hr => by simp [execOp, hr.ev hx]) hc hQ k
theorem XL.s (k : XL (i + 1) N w0 ops Q R0 H0 Z fuel listed e R H) (hl : decide (i < ops.size) = true := by rfl) : XL i N w0 ops Q R0 H0 Z fuel listed e R H := k
theorem XL.fi (k : XB Tryz.prog N w0 ops Q R0 H0 Z fuel listed e R H) (hl : decide (i < ops.size) = false := by rfl) : XL i N w0 ops Q R0 H0 Z fuel listed e R H := k
theorem XB.qz (i : Nat) (k : XB Tryz.prog N w0 ops Q R0 H0 Z fuel (listed.setIfInBounds i true) ((d, v) :: e) R H) (hi : ops[i]? = some ⟨some d, op, ty, pos, aft, none⟩ := by rfl) (hdo : Does Tryz.prog N w0 e R0 H0 ⟨some d, op, ty, pos, aft, none⟩ v := by exact dz) (hd : d < N.n := by decide)
  (hc : (Region.free .any ops listed i && (Region.ready .any ops listed).contains i && Z.contains i) = true := by kernel_rfl) (hQ : ∀ c a w, Q (.panic c) (a.put (some d) v) w → Q (.panic c) a w := by first | exact fun _ _ _ h => h | exact fun _ _ _ h => putD rfl h)
  (hsub : ∀ w, St w0 R H w → St w0 R0 H0 w := by first | exact fun _ h => h | exact fun _ h => h.tail | exact fun _ h => h.tail.tail | exact fun _ h => h.tail.tail.tail | exact fun _ h => h.tailR | exact fun _ h => h.tailR.tail) : XB Tryz.prog N w0 ops Q R0 H0 Z (fuel + 1) listed e R H := XB.do_ i hi rfl rfl hd hdo hc hQ hsub k
theorem XK.dr {id : Nat} {l : List Oper} (k : XB Tryz.prog N w0 ops Q R0 H0 Z fuel listed e' R' H') (hk : XB Tryz.prog N w0 ops Q R0 H0 Z fuel listed e' R' H' → XL 0 N w0 l.toArray Q R H (zOf l.toArray) l.length (Array.replicate l.length false) e R H := by
  intro h
  repeat (first | refine XL.mo ?_ | refine XL.q ?_ | refine XL.qT ?_ | refine XL.qF ?_ | refine XL.qU ?_ | refine XL.s ?_ | refine XL.fi ?_)
  exact h) (hm : Tryz.prog.follows .mixedOrders = true := by kernel_rfl) (hs : Region.noSelect l.toArray = true := by kernel_rfl) : XK N w0 ((Code.region id l.toArray true).wp Tryz.prog Q) e R H := XK.drawB (zOf l.toArray) (hk k) hm hs
def zAll (ops : Array Oper) : List Nat := (List.range ops.size).filter fun i => match ops[i]? with
 | some o => quietOp o.op
 | none => false
theorem XK.dz {id : Nat} {l : List Oper} (k : XB Tryz.prog N w0 l.toArray Q R H (zAll l.toArray) fuel listed e' R' H') (hk : XB Tryz.prog N w0 l.toArray Q R H (zAll l.toArray) fuel listed e' R' H' → XL 0 N w0 l.toArray Q R H (zAll l.toArray) l.length (Array.replicate l.length false) e R H := by
  intro h
  repeat (first | refine XL.mo ?_ | refine XL.q ?_ | refine XL.qT ?_ | refine XL.qF ?_ | refine XL.qU ?_ | refine XL.s ?_ | refine XL.fi ?_)
  exact h) (hm : Tryz.prog.follows .mixedOrders = true := by kernel_rfl) (hs : Region.noSelect l.toArray = true := by kernel_rfl) : XK N w0 ((Code.region id l.toArray true).wp Tryz.prog Q) e R H := XK.drawB (zAll l.toArray) (hk k) hm hs
theorem XB.lo (i : Nat) {fuel' : Nat} {listed' : Array Bool} (k : XB Tryz.prog N w0 ops Q R0 H0 Z fuel' listed' e' R' H') (hk : XB Tryz.prog N w0 ops Q R0 H0 Z fuel' listed' e' R' H' → XL i N w0 ops Q R0 H0 Z fuel listed e R H := by
  intro h
  repeat (first | refine XL.mo ?_ | refine XL.q ?_ | refine XL.qT ?_ | refine XL.qF ?_ | refine XL.qU ?_ | refine XL.s ?_ | refine XL.fi ?_)
  exact h) : XB Tryz.prog N w0 ops Q R0 H0 Z fuel listed e R H := hk k
theorem XB.nx (i : Nat) {oi : Oper} (k : XK N w0 (wpList Tryz.prog ops (Exit.then (XBK Tryz.prog w0 ops Q R0 H0 Z fuel listed i) Q) [oi]) e R H) (hr : Region.ready .any ops listed = [i] := by decide +kernel) (hi : ops[i]? = some oi := by rfl) : XB Tryz.prog N w0 ops Q R0 H0 Z (fuel + 1) listed e R H := XB.next i hi hr k
theorem XB.fin (k : XK N w0 (Q .normal) e R H) (hr : Region.ready .any ops listed = [] := by decide +kernel) : XB Tryz.prog N w0 ops Q R0 H0 Z fuel listed e R H := XB.done hr k
def chnB (ops : Array Oper) (Z : List Nat) : List Nat → Nat → Array Bool → Bool
 | [], _, listed => (Region.ready .any ops listed).isEmpty
 | i :: is, f + 1, listed => decide (Region.ready .any ops listed = [i]) && waitsB ops Z i && chnB ops Z is f (listed.setIfInBounds i true)
 | _ :: _, 0, _ => false
def restO (ops : Array Oper) (is : List Nat) : List Oper := is.filterMap fun i => ops[i]?
theorem rest_sound {P : Program} {S : World → Prop} : ∀ (is : List Nat) (f : Nat) (listed : Array Bool) (a : Act) (w : World), chnB ops Z is f listed = true → wpList P ops Q (restO ops is) a w → wpAnyY P ops Q S Z f listed a w
 | [], 0, listed, a, w, hc, h => ⟨by simpa [chnB] using hc, h⟩
 | [], f + 1, listed, a, w, hc, h => by
  have hr : Region.ready .any ops listed = [] := by simpa [chnB] using hc
  exact ⟨fun _ => h, fun i hi => by rw [hr] at hi; cases hi⟩
 | i :: is, f + 1, listed, a, w, hc, h => by
  unfold chnB at hc
  simp only [Bool.and_eq_true, decide_eq_true_eq] at hc
  obtain ⟨⟨hr, hw⟩, hc⟩ := hc
  refine ⟨(fun h0 => by rw [hr] at h0; cases h0), fun j hj => ?_⟩
  rw [hr] at hj
  simp only [List.mem_singleton] at hj
  subst hj
  have hk : ∀ a' w', wpList P ops Q (restO ops is) a' w' → (waitsB ops Z j = false → (S w ∨ moveB ops j = false) → S w') ∧ wpAnyY P ops Q S Z f (listed.setIfInBounds j true) a' w' := fun a' w' h' => ⟨(fun h0 => by rw [hw] at h0; cases h0), rest_sound is f _ a' w' hc h'⟩
  refine wpOp_mono hk ?_
  unfold wpOp
  unfold restO at h
  cases ho : ops[j]? with
  | none =>
   rw [List.filterMap_cons, ho] at h
   exact h
  | some o =>
   rw [List.filterMap_cons, ho] at h
   exact h
theorem XB.tl (is : List Nat) (k : XK N w0 (wpList Tryz.prog ops Q (restO ops is)) e R H) (hc : chnB ops Z is fuel listed = true := by kernel_rfl) : XB Tryz.prog N w0 ops Q R0 H0 Z fuel listed e R H := fun _ a w hr st => rest_sound _ _ _ _ _ hc (k a w hr st)
theorem kcons {i : Nat} {is is' : List Nat} {ds : Option Nat} {gd : Option (Nat × Bool)} (k : XK N w0 (wpList Tryz.prog ops Q (⟨ds, op, ty, pos, aft, gd⟩ :: restO ops is')) e R H) (hs : is = i :: is' := by rfl) (hi : ops[i]? = some ⟨ds, op, ty, pos, aft, gd⟩ := by rfl) : XK N w0 (wpList Tryz.prog ops Q (restO ops is)) e R H := by
 subst hs
 unfold restO
 rw [List.filterMap_cons, hi]
 exact k
theorem knil {is : List Nat} (k : XK N w0 (Q .normal) e R H) (hs : is = [] := by rfl) : XK N w0 (wpList Tryz.prog ops Q (restO ops is)) e R H := by
 subst hs
 exact XK.nil k
theorem krest {is : List Nat} (k : XK N w0 (wpList Tryz.prog ops Q (restO ops is)) e R H) : XK N w0 (wpList Tryz.prog ops Q (restO ops is)) e R H := k
theorem XK.dw (is : List Nat) {id : Nat} {l : List Oper} (k : XK N w0 (wpList Tryz.prog l.toArray Q (restO l.toArray is)) e' R' H') (hk : XB Tryz.prog N w0 l.toArray Q R H (zOf l.toArray) fuel listed e' R' H' → XL 0 N w0 l.toArray Q R H (zOf l.toArray) l.length (Array.replicate l.length false) e R H := by
  intro h
  repeat (first | refine XL.mo ?_ | refine XL.q ?_ | refine XL.qT ?_ | refine XL.qF ?_ | refine XL.qU ?_ | refine XL.s ?_ | refine XL.fi ?_)
  exact h) (hc : chnB l.toArray (zOf l.toArray) is fuel listed = true := by kernel_rfl) (hm : Tryz.prog.follows .mixedOrders = true := by kernel_rfl) (hs : Region.noSelect l.toArray = true := by kernel_rfl) : XK N w0 ((Code.region id l.toArray true).wp Tryz.prog Q) e R H := XK.drawB (zOf l.toArray) (hk (XB.tl is k hc)) hm hs
theorem XK.gw (k : XK N w0 K' e' R' H') (hk : XK N w0 K' e' R' H' → XK N w0 K e R H := by
    intro h
    repeat' (first
      | ((with_reducible refine kop ?_)
         first
         | refine kz ?_
         | refine xk_guardT rfl rfl ?_
         | refine xk_guardF rfl rfl rfl (by decide) ?_
         | refine xk_guardU rfl rfl (by decide) ?_
         | ((with_reducible refine kopS ?_); first | (refine kst rfl rfl ?_; dsimp only [List.set]) | (refine kst rfl rfl ?_ (hs := StoreAt.mk 9 rfl OneT.h rfl (by simp)); dsimp only [List.set]) | (refine kst rfl rfl ?_ (hs := StoreAt.mk 10 rfl OneT.h rfl (by simp)); dsimp only [List.set]) | (refine kst rfl rfl ?_ (hs := StoreAt.mk 11 rfl OneT.h rfl (by simp)); dsimp only [List.set]) | (refine kstW 0 rfl ?_; dsimp only [List.set]) | (refine kstW 1 rfl ?_; dsimp only [List.set]) | (refine kstW 2 rfl ?_; dsimp only [List.set]) | (refine kstW 3 rfl ?_; dsimp only [List.set])))
      | with_reducible refine XK.nil ?_
      | ((with_reducible refine krest ?_); first | refine kcons ?_ | refine knil ?_)
      | with_reducible refine XK.thenN ?_
      | with_reducible refine XK.thenE ?_
      | with_reducible refine XK.thenR ?_
      | with_reducible refine XK.inN ?_
      | with_reducible refine XK.inE ?_
      | with_reducible refine XK.inR ?_
      | ((with_reducible refine XK.inF ?_ ?_); rfl)
      | with_reducible refine XK.seq ?_
      | with_reducible refine XK.region ?_
      | with_reducible refine XK.skip ?_
      | with_reducible refine XK.exit ?_
      | with_reducible refine XK.ret ?_
      | with_reducible refine XK.block ?_
      | ((with_reducible refine kcond ?_)
         first
         | (refine XK.cond (b := true) rfl (fun _ => ?_) (fun h => by cases h))
         | (refine XK.cond (b := false) rfl (fun h => by cases h) (fun _ => ?_))))
    exact h) : XK N w0 K e R H := hk k
end
end
section
set_option maxHeartbeats 4000000
set_option maxRecDepth 20000
def OwnN_clk (n : Nat) (xs : List Value) (v : Value) (hs : List HP) (_ : Piece) : Prop := ∃ A c, v = .slice A n c ∧ hs = [HP.own 64 6 (.slice A n c) n xs]
theorem ownN_clk (A : Option Addr) (n c : Nat) (xs : List Value) (w : World) (hs : SlS (all w) 6 A n xs) (h1 : ∀ u ∈ xs, u.oneCell' = true) (hn : n ≤ 1000000) :
  Calls Tryz.prog 48 #[.slice A n c] w (fun y w' => (∃ v hs q, y = .returned v ∧ q.w = w' ∧ OwnN_clk n xs v hs q ∧ New w hs q) ∧ Below w.heap.size w w') := by
 refine XK.enter (vs := [.slice A n c]) Tryz.func48 rfl Tryz.ntmps48 (by simp) ?_
 refine XK.go ?_
 refine XK.nilrow 64 6 ?_
 refine xk_appendT 0 6 64 n (n' := n) (v := .slice none 0 0) (el := 64) (by kernel_rfl) (by kernel_rfl) (by decide) rfl rfl rfl (sl_ro (by simp) hs) h1 (by omega) (by omega) (by omega) (by decide) fun A' k' => ?_
 dsimp only [List.set, List.nil_append]
 refine XK.go ?_
 refine XK.still [] [] [0] (by simp) rfl (by decide) (by decide) fun q _ _ hfr => ?_
 exact XK.ret1 rfl rfl fun w1 st => ⟨⟨_, _, ⟨w1, q.Z⟩, rfl, rfl, ⟨_, _, rfl, rfl⟩, st.newR (by simp) (by simp) (hfr (by simp) (by simp))⟩, st.below (by simp)⟩
def OwnN_dom (n : Nat) (xs : List Value) (v : Value) (hs : List HP) (_ : Piece) : Prop := ∃ A c, v = .slice A n c ∧ hs = [HP.own 49 3 (.slice A n c) n xs]
theorem ownN_dom (A : Option Addr) (n c : Nat) (xs : List Value) (w : World) (hs : SlS (all w) 3 A n xs) (h1 : ∀ u ∈ xs, u.oneCell' = true) (hn : n ≤ 1000000) :
  Calls Tryz.prog 49 #[.slice A n c] w (fun y w' => (∃ v hs q, y = .returned v ∧ q.w = w' ∧ OwnN_dom n xs v hs q ∧ New w hs q) ∧ Below w.heap.size w w') := by
 refine XK.enter (vs := [.slice A n c]) Tryz.func49 rfl Tryz.ntmps49 (by simp) ?_
 refine XK.go ?_
 refine XK.nilrow 49 3 ?_
 refine xk_appendT 0 3 24 n (n' := n) (v := .slice none 0 0) (el := 49) (by kernel_rfl) (by kernel_rfl) (by decide) rfl rfl rfl (sl_ro (by simp) hs) h1 (by omega) (by omega) (by omega) (by decide) fun A' k' => ?_
 dsimp only [List.set, List.nil_append]
 refine XK.go ?_
 refine XK.still [] [] [0] (by simp) rfl (by decide) (by decide) fun q _ _ hfr => ?_
 exact XK.ret1 rfl rfl fun w1 st => ⟨⟨_, _, ⟨w1, q.Z⟩, rfl, rfl, ⟨_, _, rfl, rfl⟩, st.newR (by simp) (by simp) (hfr (by simp) (by simp))⟩, st.below (by simp)⟩
def OwnN_rst (n : Nat) (xs : List Value) (v : Value) (hs : List HP) (_ : Piece) : Prop := ∃ A c, v = .slice A n c ∧ hs = [HP.own 66 1 (.slice A n c) n xs]
theorem ownN_rst (A : Option Addr) (n c : Nat) (xs : List Value) (w : World) (hs : SlS (all w) 1 A n xs) (h1 : ∀ u ∈ xs, u.oneCell' = true) (hn : n ≤ 1000000) :
  Calls Tryz.prog 50 #[.slice A n c] w (fun y w' => (∃ v hs q, y = .returned v ∧ q.w = w' ∧ OwnN_rst n xs v hs q ∧ New w hs q) ∧ Below w.heap.size w w') := by
 refine XK.enter (vs := [.slice A n c]) Tryz.func50 rfl Tryz.ntmps50 (by simp) ?_
 refine XK.go ?_
 refine XK.nilrow 66 1 ?_
 refine xk_appendT 0 1 8 n (n' := n) (v := .slice none 0 0) (el := 66) (by kernel_rfl) (by kernel_rfl) (by decide) rfl rfl rfl (sl_ro (by simp) hs) h1 (by omega) (by omega) (by omega) (by decide) fun A' k' => ?_
 dsimp only [List.set, List.nil_append]
 refine XK.go ?_
 refine XK.still [] [] [0] (by simp) rfl (by decide) (by decide) fun q _ _ hfr => ?_
 exact XK.ret1 rfl rfl fun w1 st => ⟨⟨_, _, ⟨w1, q.Z⟩, rfl, rfl, ⟨_, _, rfl, rfl⟩, st.newR (by simp) (by simp) (hfr (by simp) (by simp))⟩, st.below (by simp)⟩
def OwnN_dev (n : Nat) (xs : List Value) (v : Value) (hs : List HP) (_ : Piece) : Prop := ∃ A c, v = .slice A n c ∧ hs = [HP.own 71 6 (.slice A n c) n xs]
theorem ownN_dev (A : Option Addr) (n c : Nat) (xs : List Value) (w : World) (hs : SlS (all w) 6 A n xs) (h1 : ∀ u ∈ xs, u.oneCell' = true) (hn : n ≤ 1000000) :
  Calls Tryz.prog 51 #[.slice A n c] w (fun y w' => (∃ v hs q, y = .returned v ∧ q.w = w' ∧ OwnN_dev n xs v hs q ∧ New w hs q) ∧ Below w.heap.size w w') := by
 refine XK.enter (vs := [.slice A n c]) Tryz.func51 rfl Tryz.ntmps51 (by simp) ?_
 refine XK.go ?_
 refine XK.nilrow 71 6 ?_
 refine xk_appendT 0 6 80 n (n' := n) (v := .slice none 0 0) (el := 71) (by kernel_rfl) (by kernel_rfl) (by decide) rfl rfl rfl (sl_ro (by simp) hs) h1 (by omega) (by omega) (by omega) (by decide) fun A' k' => ?_
 dsimp only [List.set, List.nil_append]
 refine XK.go ?_
 refine XK.still [] [] [0] (by simp) rfl (by decide) (by decide) fun q _ _ hfr => ?_
 exact XK.ret1 rfl rfl fun w1 st => ⟨⟨_, _, ⟨w1, q.Z⟩, rfl, rfl, ⟨_, _, rfl, rfl⟩, st.newR (by simp) (by simp) (hfr (by simp) (by simp))⟩, st.below (by simp)⟩
def OwnN_int (n : Nat) (xs : List Value) (v : Value) (hs : List HP) (_ : Piece) : Prop := ∃ A c, v = .slice A n c ∧ hs = [HP.own 3 1 (.slice A n c) n xs]
theorem ownN_int (A : Option Addr) (n c : Nat) (xs : List Value) (w : World) (hs : SlS (all w) 1 A n xs) (h1 : ∀ u ∈ xs, u.oneCell' = true) (hn : n ≤ 1000000) :
  Calls Tryz.prog 52 #[.slice A n c] w (fun y w' => (∃ v hs q, y = .returned v ∧ q.w = w' ∧ OwnN_int n xs v hs q ∧ New w hs q) ∧ Below w.heap.size w w') := by
 refine XK.enter (vs := [.slice A n c]) Tryz.func52 rfl Tryz.ntmps52 (by simp) ?_
 refine XK.go ?_
 refine XK.nilrow 3 1 ?_
 refine xk_appendT 0 1 8 n (n' := n) (v := .slice none 0 0) (el := 3) (by kernel_rfl) (by kernel_rfl) (by decide) rfl rfl rfl (sl_ro (by simp) hs) h1 (by omega) (by omega) (by omega) (by decide) fun A' k' => ?_
 dsimp only [List.set, List.nil_append]
 refine XK.go ?_
 refine XK.still [] [] [0] (by simp) rfl (by decide) (by decide) fun q _ _ hfr => ?_
 exact XK.ret1 rfl rfl fun w1 st => ⟨⟨_, _, ⟨w1, q.Z⟩, rfl, rfl, ⟨_, _, rfl, rfl⟩, st.newR (by simp) (by simp) (hfr (by simp) (by simp))⟩, st.below (by simp)⟩
def OwnN_reg (n : Nat) (xs : List Value) (v : Value) (hs : List HP) (_ : Piece) : Prop := ∃ A c, v = .slice A n c ∧ hs = [HP.own 68 2 (.slice A n c) n xs]
theorem ownN_reg (A : Option Addr) (n c : Nat) (xs : List Value) (w : World) (hs : SlS (all w) 2 A n xs) (h1 : ∀ u ∈ xs, u.oneCell' = true) (hn : n ≤ 1000000) :
  Calls Tryz.prog 53 #[.slice A n c] w (fun y w' => (∃ v hs q, y = .returned v ∧ q.w = w' ∧ OwnN_reg n xs v hs q ∧ New w hs q) ∧ Below w.heap.size w w') := by
 refine XK.enter (vs := [.slice A n c]) Tryz.func53 rfl Tryz.ntmps53 (by simp) ?_
 refine XK.go ?_
 refine XK.nilrow 68 2 ?_
 refine xk_appendT 0 2 8 n (n' := n) (v := .slice none 0 0) (el := 68) (by kernel_rfl) (by kernel_rfl) (by decide) rfl rfl rfl (sl_ro (by simp) hs) h1 (by omega) (by omega) (by omega) (by decide) fun A' k' => ?_
 dsimp only [List.set, List.nil_append]
 refine XK.go ?_
 refine XK.still [] [] [0] (by simp) rfl (by decide) (by decide) fun q _ _ hfr => ?_
 exact XK.ret1 rfl rfl fun w1 st => ⟨⟨_, _, ⟨w1, q.Z⟩, rfl, rfl, ⟨_, _, rfl, rfl⟩, st.newR (by simp) (by simp) (hfr (by simp) (by simp))⟩, st.below (by simp)⟩
end
section
structure SocQ (p : Piece) (s : Soc) (A1 : Option Addr) (n1 : Nat) (A2 : Option Addr) (n2 : Nat) (A3 : Option Addr) (n3 : Nat) (A4 : Option Addr) (n4 : Nat) : Prop where
 clk : RsR (slq p) (ClkR (slq p)) 64 6 A1 n1 s.clocks
 dom : RsR (slq p) DomR 49 3 A2 n2 s.domains
 rst : RsR (slq p) RstR 66 1 A3 n3 s.resets
 dev : RsR (slq p) (DevR (slq p)) 71 6 A4 n4 s.devs
section
variable {p q : Piece} {w : World} {s : Soc} {A1 A2 A3 A4 : Option Addr} {n1 n2 n3 n4 : Nat}
theorem SocQ.le (h : SocQ p s A1 n1 A2 n2 A3 n3 A4 n4) (hl : p.Le q) : SocQ q s A1 n1 A2 n2 A3 n3 A4 n4 :=
 ⟨h.clk.mono (slq_le hl) (fun _ _ => ClkR.mono (slq_le hl)), h.dom.mono (slq_le hl) (fun _ _ h => h), h.rst.mono (slq_le hl) (fun _ _ h => h), h.dev.mono (slq_le hl) (fun _ _ => DevR.mono (slq_le hl))⟩
theorem SocQ.W (h : SocQ p s A1 n1 A2 n2 A3 n3 A4 n4) (hl : p.Le (all w)) (hs : s.small) : SocW w s A1 n1 A2 n2 A3 n3 A4 n4 := ⟨(h.le hl).clk, (h.le hl).dom, (h.le hl).rst, (h.le hl).dev, hs⟩
theorem SocQ.len (h : SocQ p s A1 n1 A2 n2 A3 n3 A4 n4) : n1 = s.clocks.length ∧ n2 = s.domains.length ∧ n3 = s.resets.length ∧ n4 = s.devs.length := by
 obtain ⟨⟨_, _, h1, _⟩, ⟨_, _, h2, _⟩, ⟨_, _, h3, _⟩, ⟨_, _, h4, _⟩⟩ := h
 exact ⟨h1, h2, h3, h4⟩
theorem SocR.Q {cs : Array Value} (h : SocR (slq p) s cs) : ∃ A1 n1 k1 A2 n2 k2 A3 n3 k3 A4 n4 k4, cs = #[.slice A1 n1 k1, .slice A2 n2 k2, .slice A3 n3 k3, .slice A4 n4 k4] ∧ SocQ p s A1 n1 A2 n2 A3 n3 A4 n4 := by
 obtain ⟨A1, n1, k1, A2, n2, k2, A3, n3, k3, A4, n4, k4, h0, h1, h2, h3, h4⟩ := h
 exact ⟨A1, n1, k1, A2, n2, k2, A3, n3, k3, A4, n4, k4, h0, h1, h2, h3, h4⟩
end
theorem RsR.rowQ {α : Type} {p : Piece} {R : α → List Value → Prop} {t : TypeId} {sz n : Nat} {A : Option Addr} {es : List α} (h : RsR (slq p) R t sz A n es) {k : Nat} {e : α} (hk : es[k]? = some e) :
  ∃ b off r, A = some ⟨b, off, none⟩ ∧ p.Z b ∧ r.length = sz ∧ R e r ∧ ∀ f u, r[f]? = some u → p.w.cell? ⟨b, off + k * sz + f, none⟩ = some u := by
 obtain ⟨rows, h1, h2, h3⟩ := h
 have hlt : k < n := by
  rw [h2]
  rcases Nat.lt_or_ge k es.length with h | h
  ·exact h
  ·rw [List.getElem?_eq_none h] at hk; cases hk
 obtain ⟨b, off, hA, hb, hc⟩ := SlS.at_ h3 hlt
 obtain ⟨r, h4, h5, h6⟩ := h1.get hk
 refine ⟨b, off, r, hA, hb, h4, h5, fun f u hu => hc f u ?_⟩
 have hf : f < sz := by
  rw [← h4]
  rcases Nat.lt_or_ge f r.length with h | h
  ·exact h
  ·rw [List.getElem?_eq_none h] at hu; cases hu
 rw [h6 f hf, hu]
end
section
theorem XK.chunk0 {N : Frm} {w0 : World} {e : Env} {R : List Piece} {H : List HP} {K : Act → World → Prop} {p : HP} (hp : ∀ w, p.sat (fun _ => False) w) (h : XK N w0 K e R (p :: H)) : XK N w0 K e R H := fun a w hr st =>
 h a w hr (st.new (w' := w) (Below.refl _ _) (by
  rw [show (fresh w w).Z = fun _ => False from by funext b; simp only [fresh, eq_iff_iff, iff_false]; omega]
  exact hp w))
abbrev AC := Option Addr × Nat
def clkC (c : Clk) (a : AC) : List Value := [.int .u8 c.kind, .slice a.1 c.src.length a.2, .int .u64 c.rate, .int .i64 c.mul, .int .i64 c.div, .int .i64 c.lock]
def devC (d : Dev) (p : AC × AC) : List Value := [.int .i64 d.clock, .int .i64 d.domain, .int .i64 d.reset, .int .u32 d.clamp, .slice p.1.1 d.regs.length p.1.2, .slice p.2.1 d.needs.length p.2.2]
def clksR (s : Soc) (fa : List AC) : List (List Value) := List.zipWith clkC s.clocks fa
def devsR (s : Soc) (da : List (AC × AC)) : List (List Value) := List.zipWith devC s.devs da
section
variable {α β : Type} {f : α → β → List Value} {sz : Nat}
theorem zw_len {es : List α} {bs : List β} (hl : bs.length = es.length) (hf : ∀ e a, (f e a).length = sz) : (List.zipWith f es bs).length = es.length ∧ ∀ r ∈ List.zipWith f es bs, r.length = sz := by
 refine ⟨by simp; omega, fun r hr => ?_⟩
 obtain ⟨j, hj⟩ := List.getElem?_of_mem hr
 rw [List.getElem?_zipWith] at hj
 split at hj <;> cases hj
 exact hf _ _
theorem zw_get {es : List α} {bs : List β} {i : Nat} {e : α} {a : β} (he : es[i]? = some e) (ha : bs[i]? = some a) : (List.zipWith f es bs)[i]? = some (f e a) := by rw [List.getElem?_zipWith, he, ha]
theorem zw_set {es : List α} {bs : List β} {i : Nat} {e : α} {a : β} (he : es[i]? = some e) (hi : i < bs.length) : (List.zipWith f es bs).set i (f e a) = List.zipWith f es (bs.set i a) := by
 refine List.ext_getElem? fun j => ?_
 rw [List.getElem?_set]
 by_cases hj : i = j
 ·subst hj
  have h1 := (List.getElem?_eq_some_iff.1 he).1
  rw [if_pos rfl, zw_get he (List.getElem?_set_self hi), if_pos (by simp; omega)]
 ·rw [if_neg hj, List.getElem?_zipWith, List.getElem?_zipWith, List.getElem?_set_ne hj]
theorem zw_one {es : List α} {bs : List β} (hf : ∀ e a, ∀ u ∈ f e a, u.oneCell' = true) : ∀ u ∈ (List.zipWith f es bs).flatten, u.oneCell' = true := fun u hu => by
 obtain ⟨r, hr, hu⟩ := List.mem_flatten.1 hu
 obtain ⟨j, hj⟩ := List.getElem?_of_mem hr
 rw [List.getElem?_zipWith] at hj
 split at hj <;> cases hj
 exact hf _ _ u hu
end
theorem clkC_one (c : Clk) (a : AC) : ∀ u ∈ clkC c a, u.oneCell' = true := by simp [clkC, Value.oneCell']
theorem devC_one (d : Dev) (p : AC × AC) : ∀ u ∈ devC d p, u.oneCell' = true := by simp [devC, Value.oneCell']
theorem clk_rows {S : SlP} : ∀ {cl : List Clk} {rs : List (List Value)}, Rows (ClkR S) 6 cl rs → ∃ fa : List AC, fa.length = cl.length ∧ rs = List.zipWith clkC cl fa ∧ ∀ (i : Nat) (c : Clk) (a : AC), cl[i]? = some c → fa[i]? = some a → S 3 1 a.1 c.src.length (intCells c.src)
 | [], [], _ => ⟨[], rfl, rfl, fun i c a h => by simp at h⟩
 | e :: es, r :: rs, h => by
  obtain ⟨_, ⟨A, n, k, hr, hn, hS⟩, h3⟩ := h
  obtain ⟨fa, h4, h5, h6⟩ := clk_rows h3
  subst hn
  refine ⟨(A, k) :: fa, by simp [h4], by rw [hr, h5]; rfl, fun i c a hc ha => ?_⟩
  cases i with
  | zero => simp at hc ha; subst hc; subst ha; exact hS
  | succ i => exact h6 i c a (by simpa using hc) (by simpa using ha)
theorem rows_clk {S : SlP} : ∀ {cl : List Clk} {fa : List AC}, fa.length = cl.length → (∀ (i : Nat) (c : Clk) (a : AC), cl[i]? = some c → fa[i]? = some a → S 3 1 a.1 c.src.length (intCells c.src)) → Rows (ClkR S) 6 cl (List.zipWith clkC cl fa)
 | [], [], _, _ => trivial
 | c :: cl, a :: fa, hl, h => ⟨rfl, ⟨a.1, _, a.2, rfl, rfl, h 0 c a rfl rfl⟩, rows_clk (by simpa using hl) fun i c' a' hc ha => h (i + 1) c' a' (by simpa using hc) (by simpa using ha)⟩
theorem dev_rows {S : SlP} : ∀ {cl : List Dev} {rs : List (List Value)}, Rows (DevR S) 6 cl rs → ∃ da : List (AC × AC), da.length = cl.length ∧ rs = List.zipWith devC cl da ∧ ∀ (i : Nat) (d : Dev) (p : AC × AC), cl[i]? = some d → da[i]? = some p → S 68 2 p.1.1 d.regs.length (d.regs.flatMap Rg.cells) ∧ S 3 1 p.2.1 d.needs.length (intCells d.needs)
 | [], [], _ => ⟨[], rfl, rfl, fun i c a h => by simp at h⟩
 | e :: es, r :: rs, h => by
  obtain ⟨_, ⟨A, n, k, A', n', k', hr, hn, hn', hS, hS'⟩, h3⟩ := h
  obtain ⟨da, h4, h5, h6⟩ := dev_rows h3
  subst hn; subst hn'
  refine ⟨((A, k), (A', k')) :: da, by simp [h4], by rw [hr, h5]; rfl, fun i d p hc ha => ?_⟩
  cases i with
  | zero => simp at hc ha; subst hc; subst ha; exact ⟨hS, hS'⟩
  | succ i => exact h6 i d p (by simpa using hc) (by simpa using ha)
theorem rows_dev {S : SlP} : ∀ {cl : List Dev} {da : List (AC × AC)}, da.length = cl.length → (∀ (i : Nat) (d : Dev) (p : AC × AC), cl[i]? = some d → da[i]? = some p → S 68 2 p.1.1 d.regs.length (d.regs.flatMap Rg.cells) ∧ S 3 1 p.2.1 d.needs.length (intCells d.needs)) → Rows (DevR S) 6 cl (List.zipWith devC cl da)
 | [], [], _, _ => trivial
 | c :: cl, a :: da, hl, h => ⟨rfl, ⟨a.1.1, _, a.1.2, a.2.1, _, a.2.2, rfl, rfl, rfl, (h 0 c a rfl rfl).1, (h 0 c a rfl rfl).2⟩, rows_dev (by simpa using hl) fun i c' a' hc ha => h (i + 1) c' a' (by simpa using hc) (by simpa using ha)⟩
theorem dom_one {es : List Dom} {rs : List (List Value)} (h : Rows DomR 3 es rs) : ∀ u ∈ rs.flatten, u.oneCell' = true := fun u hu => by
 obtain ⟨r, hr, hu⟩ := List.mem_flatten.1 hu
 obtain ⟨j, hj⟩ := List.getElem?_of_mem hr
 obtain ⟨e, _, _, hR⟩ := h.at_ hj
 unfold DomR at hR
 subst hR
 simp only [List.mem_cons, List.not_mem_nil, or_false] at hu
 rcases hu with rfl | rfl | rfl <;> rfl
theorem rst_one {es : List Int} {rs : List (List Value)} (h : Rows RstR 1 es rs) : ∀ u ∈ rs.flatten, u.oneCell' = true := fun u hu => by
 obtain ⟨r, hr, hu⟩ := List.mem_flatten.1 hu
 obtain ⟨j, hj⟩ := List.getElem?_of_mem hr
 obtain ⟨e, _, _, hR⟩ := h.at_ hj
 unfold RstR at hR
 subst hR
 simp only [List.mem_cons, List.not_mem_nil, or_false] at hu
 subst hu
 rfl
def CkP (s : Soc) (fa : List AC) (i : Nat) (p : Piece) : Prop := ∀ (j : Nat) (c : Clk) (a : AC), j < i → s.clocks[j]? = some c → fa[j]? = some a → SlS p 1 a.1 c.src.length (intCells c.src)
theorem CkP.le {s : Soc} {fa : List AC} {i : Nat} (p q : Piece) (hl : p.Le q) (h : CkP s fa i p) : CkP s fa i q := fun j c a hj hc ha => (h j c a hj hc ha).le hl
def DvP (s : Soc) (da : List (AC × AC)) (i : Nat) (p : Piece) : Prop := ∀ (j : Nat) (d : Dev) (a : AC × AC), j < i → s.devs[j]? = some d → da[j]? = some a → SlS p 2 a.1.1 d.regs.length (d.regs.flatMap Rg.cells) ∧ SlS p 1 a.2.1 d.needs.length (intCells d.needs)
theorem DvP.le {s : Soc} {da : List (AC × AC)} {i : Nat} (p q : Piece) (hl : p.Le q) (h : DvP s da i p) : DvP s da i q := fun j c a hj hc ha => ⟨(h j c a hj hc ha).1.le hl, (h j c a hj hc ha).2.le hl⟩
end
section
set_option maxHeartbeats 4000000
set_option maxRecDepth 20000
theorem regs_one {l : List Rg} : ∀ u ∈ l.flatMap Rg.cells, u.oneCell' = true := fun u hu => by
 obtain ⟨r, _, hu⟩ := List.mem_flatMap.1 hu
 simp only [Rg.cells, List.mem_cons, List.not_mem_nil, or_false] at hu
 rcases hu with rfl | rfl <;> rfl
def CopyOk (s : Soc) (v : Value) (w w' : World) : Prop := ∃ cs, v = .agg cs ∧ SocR (slq (fresh w w')) s cs
theorem copy_any (s : Soc) (A1 A2 A3 A4 : Option Addr) (n1 k1 n2 k2 n3 k3 n4 k4 : Nat) (w : World) (hW : SocW w s A1 n1 A2 n2 A3 n3 A4 n4) (hsr : ∀ d ∈ s.devs, d.regs.length ≤ 1000000) :
  Calls Tryz.prog 21 #[.agg #[.slice A1 n1 k1, .slice A2 n2 k2, .slice A3 n3 k3, .slice A4 n4 k4]] w (fun y w' => (∃ v, y = .returned v ∧ CopyOk s v w w') ∧ Below w.heap.size w w') := by
 obtain ⟨rc, hrc, hn1, hsc⟩ := hW.clk
 obtain ⟨rd, hrd, hn2, hsd⟩ := hW.dom
 obtain ⟨rr, hrr, hn3, hst⟩ := hW.rst
 obtain ⟨rv, hrv, hn4, hsv⟩ := hW.dev
 obtain ⟨fa0, hfl0, rfl, hfa0⟩ := clk_rows hrc
 obtain ⟨da0, hdl0, rfl, hda0⟩ := dev_rows hrv
 obtain ⟨sm1, sm2, sm3, sm4, sm5, sm6⟩ := hW.small
 subst hn1; subst hn2; subst hn3; subst hn4
 have ho1 := zw_one (es := s.clocks) (bs := fa0) clkC_one
 have ho4 := zw_one (es := s.devs) (bs := da0) devC_one
 refine XK.enter (vs := [.agg #[.slice A1 s.clocks.length k1, .slice A2 s.domains.length k2, .slice A3 s.resets.length k3, .slice A4 s.devs.length k4]]) Tryz.func21 rfl Tryz.ntmps21 (by simp) ?_
 refine XK.seq ?_
 refine XK.region ?_
 refine xk_box rfl (by decide) fun g1 => ?_
 refine xk_alloc (cs := [.slice none 0 0, .slice none 0 0, .slice none 0 0, .slice none 0 0]) (zeroB_of (by kernel_rfl)) (by decide) fun g2 => ?_
 refine XK.nilN ?_
 refine XK.cut (fun e R H => ∃ C j1 D j2 E j3 V j4 g3, e = [(3, .pointer (some ⟨g3, 0, none⟩)), (2, .pointer (some ⟨g2, 0, none⟩))] ∧ R = [all w] ∧ H = [HP.own 64 6 (.slice C s.clocks.length j1) s.clocks.length (clksR s fa0).flatten, HP.own 71 6 (.slice V s.devs.length j4) s.devs.length (devsR s da0).flatten, HP.own 49 3 (.slice D s.domains.length j2) s.domains.length rd.flatten, HP.own 66 1 (.slice E s.resets.length j3) s.resets.length rr.flatten, HP.blk g3 34 [.slice C s.clocks.length j1, .slice D s.domains.length j2, .slice E s.resets.length j3, .slice V s.devs.length j4], HP.blk g2 34 [.slice none 0 0, .slice none 0 0, .slice none 0 0, .slice none 0 0]]) ?_ ?_
 ·refine XK.draw 14 (by kernel_rfl) (by kernel_rfl) ?_
  refine XA.q 0 ?_
  refine XA.q 1 ?_
  refine XA.q 3 ?_
  refine XA.q 4 ?_
  refine XA.q 6 ?_
  refine XA.q 7 ?_
  refine XA.q 9 ?_
  refine XA.q 10 ?_
  refine XA.maybe0 (j := 13) 3 34 [.slice none 0 0, .slice none 0 0, .slice none 0 0, .slice none 0 0] fun M => ?_
  refine XA.maybe 2 13 rfl rfl (zeroB_of (by kernel_rfl)) (by decide) (by kernel_rfl) (by kernel_rfl) (fun _ h => h) (fun M => ?_)
  refine xk_callN (f := 48) (fi := []) (ca := []) (by kernel_rfl) (ev_M M rfl rfl) (evs_M M rfl rfl) (by decide) (OwnN_clk s.clocks.length (clksR s fa0).flatten) (fun w1 st => ownN_clk A1 _ k1 _ w1 (hsc.le (st.le (by simp))) ho1 sm1) ?_
  rintro _ _ q1 ⟨C, j1, rfl, rfl⟩ _
  dsimp only [List.cons_append, List.nil_append]
  refine XK.swapM ?_
  refine XK.nil ?_; refine XK.thenN ?_; refine XA.backM (by decide) rfl (fun _ h => h.tailR.tail) ?_
  refine XA.maybe 5 13 rfl rfl (zeroB_of (by kernel_rfl)) (by decide) (by kernel_rfl) (by kernel_rfl) (fun _ h => h.tailR.tail) (fun M => ?_)
  refine xk_callN (f := 49) (fi := []) (ca := []) (by kernel_rfl) (ev_M M rfl rfl) (evs_M M rfl rfl) (by decide) (OwnN_dom s.domains.length rd.flatten) (fun w1 st => ownN_dom A2 _ k2 _ w1 (hsd.le (st.le (by simp))) (dom_one hrd) sm2) ?_
  rintro _ _ q2 ⟨D, j2, rfl, rfl⟩ _
  dsimp only [List.cons_append, List.nil_append]
  refine XK.swapM ?_
  refine XK.nil ?_; refine XK.thenN ?_; refine XA.backM (by decide) rfl (fun _ h => h.tailR.tail.tailR.tail) ?_
  refine XA.maybe 8 13 rfl rfl (zeroB_of (by kernel_rfl)) (by decide) (by kernel_rfl) (by kernel_rfl) (fun _ h => h.tailR.tail.tailR.tail) (fun M => ?_)
  refine xk_callN (f := 50) (fi := []) (ca := []) (by kernel_rfl) (ev_M M rfl rfl) (evs_M M rfl rfl) (by decide) (OwnN_rst s.resets.length rr.flatten) (fun w1 st => ownN_rst A3 _ k3 _ w1 (hst.le (st.le (by simp))) (rst_one hrr) sm3) ?_
  rintro _ _ q3 ⟨E, j3, rfl, rfl⟩ _
  dsimp only [List.cons_append, List.nil_append]
  refine XK.swapM ?_
  refine XK.nil ?_; refine XK.thenN ?_; refine XA.backM (by decide) rfl (fun _ h => h.tailR.tail.tailR.tail.tailR.tail) ?_
  refine XA.maybe 11 13 rfl rfl (zeroB_of (by kernel_rfl)) (by decide) (by kernel_rfl) (by kernel_rfl) (fun _ h => h.tailR.tail.tailR.tail.tailR.tail) (fun M => ?_)
  refine xk_callN (f := 51) (fi := []) (ca := []) (by kernel_rfl) (ev_M M rfl rfl) (evs_M M rfl rfl) (by decide) (OwnN_dev s.devs.length (devsR s da0).flatten) (fun w1 st => ownN_dev A4 _ k4 _ w1 (hsv.le (st.le (by simp))) ho4 sm4) ?_
  rintro _ _ q4 ⟨V, j4, rfl, rfl⟩ _
  dsimp only [List.cons_append, List.nil_append]
  refine XK.swapM ?_
  refine XK.nil ?_; refine XK.thenN ?_; refine XA.backM (by decide) rfl (fun _ h => h.tailR.tail.tailR.tail.tailR.tail.tailR.tail) ?_
  cases M with
  | none =>
   dsimp only [emM, hmM, lmM, fmM]
   refine XA.do_ 12 rfl rfl rfl (by decide) (does_buildS (zs := [.slice none 0 0, .slice none 0 0, .slice none 0 0, .slice none 0 0]) (L := [(0, 1), (1, 1), (2, 1), (3, 1)]) (zeroB_of (by kernel_rfl)) (by kernel_rfl) rfl (by simp [fillL, setN, Value.cells]; rfl)) (by kernel_rfl) (fun _ _ _ h => h) (fun _ h => h.tailR.tail.tailR.tail.tailR.tail.tailR.tail) ?_
   refine XA.next 13 rfl (by kernel_rfl) ?_
   refine xk_alloc (cs := [.slice none 0 0, .slice none 0 0, .slice none 0 0, .slice none 0 0]) (zeroB_of (by kernel_rfl)) (by decide) fun g3 => ?_
   refine XK.nil ?_; refine XK.thenN ?_; refine XA.back (fun _ h => h.tail.tailR.tail.tailR.tail.tailR.tail.tailR.tail) ?_
   refine XA.next 14 rfl (by kernel_rfl) ?_
   refine kstW 0 rfl ?_
   dsimp only [List.set]
   refine XA.bt ?_
   refine XA.done (by kernel_rfl) ?_
   refine XK.norm ?_
   exact XK.weak [4, 1, 3, 2, 0, 5] rfl (by decide) (by simp) (XK.envS [(3, .pointer (some ⟨g3, 0, none⟩)), (2, .pointer (some ⟨g2, 0, none⟩))] (XK.meet ⟨C, j1, D, j2, E, j3, V, j4, g3, rfl, rfl, rfl⟩))
  | some g3 =>
   dsimp only [emM, hmM, lmM, fmM]
   refine XA.do_ 12 rfl rfl rfl (by decide) (does_buildS (zs := [.slice none 0 0, .slice none 0 0, .slice none 0 0, .slice none 0 0]) (L := [(0, 1), (1, 1), (2, 1), (3, 1)]) (zeroB_of (by kernel_rfl)) (by kernel_rfl) rfl (by simp [fillL, setN, Value.cells]; rfl)) (by kernel_rfl) (fun _ _ _ h => h) (fun _ h => h.tail.tailR.tail.tailR.tail.tailR.tail.tailR.tail) ?_
   refine XA.next 14 rfl (by kernel_rfl) ?_
   refine kstW 0 rfl ?_
   dsimp only [List.set]
   refine XA.bt ?_
   refine XA.done (by kernel_rfl) ?_
   refine XK.norm ?_
   exact XK.weak [4, 1, 3, 2, 0, 5] rfl (by decide) (by simp) (XK.envS [(3, .pointer (some ⟨g3, 0, none⟩)), (2, .pointer (some ⟨g2, 0, none⟩))] (XK.meet ⟨C, j1, D, j2, E, j3, V, j4, g3, rfl, rfl, rfl⟩))
 rintro _ _ _ ⟨C, j1, D, j2, E, j3, V, j4, g3, rfl, rfl, rfl⟩
 refine XK.chunk0 (p := HP.pic (CkP s fa0 0) (CkP.le (s := s) (fa := fa0) (i := 0))) (fun w1 j c a hj => absurd hj (by omega)) ?_
 refine XK.go ?_
 refine XK.envS [(23, .int .i64 0), (22, .int .i64 s.clocks.length), (3, .pointer (some ⟨g3, 0, none⟩)), (2, .pointer (some ⟨g2, 0, none⟩))] ?_
 refine XK.loop (fun m e R H => ∃ (i : Nat) (fa : List AC), i ≤ s.clocks.length ∧ fa.length = s.clocks.length ∧ (∀ j, i ≤ j → fa[j]? = fa0[j]?) ∧ m = s.clocks.length - i ∧ e = [(23, .int .i64 i), (22, .int .i64 s.clocks.length), (3, .pointer (some ⟨g3, 0, none⟩)), (2, .pointer (some ⟨g2, 0, none⟩))] ∧ R = [all w] ∧ H = [HP.pic (CkP s fa i) (CkP.le (s := s) (fa := fa) (i := i)), HP.own 64 6 (.slice C s.clocks.length j1) s.clocks.length (clksR s fa).flatten, HP.own 71 6 (.slice V s.devs.length j4) s.devs.length (devsR s da0).flatten, HP.own 49 3 (.slice D s.domains.length j2) s.domains.length rd.flatten, HP.own 66 1 (.slice E s.resets.length j3) s.resets.length rr.flatten, HP.blk g3 34 [.slice C s.clocks.length j1, .slice D s.domains.length j2, .slice E s.resets.length j3, .slice V s.devs.length j4], HP.blk g2 34 [.slice none 0 0, .slice none 0 0, .slice none 0 0, .slice none 0 0]]) s.clocks.length ⟨0, fa0, by omega, hfl0, fun _ _ => rfl, rfl, rfl, rfl, rfl⟩ fun m e R H hI => ?_
 obtain ⟨i, fa, hi, hfl, hsame, rfl, rfl, rfl, rfl⟩ := hI
 refine XK.go ?_
 refine XK.if_ rfl (fun hlt => ?_) (fun hge => ?_)
 ·have hlt : i < s.clocks.length := by omega
  obtain ⟨c, hc⟩ := get_some hlt
  obtain ⟨a, ha⟩ := get_some (l := fa) (i := i) (by omega)
  have ha0 : fa0[i]? = some a := by rw [← hsame i (Nat.le_refl _)]; exact ha
  have hfrom := hfa0 i c a hc ha0
  have hcs := sm5 c (List.mem_of_getElem? hc)
  refine XK.weak [1, 0, 2, 3, 4, 5, 6] rfl (by decide) (fun _ h => h) ?_
  refine XK.ownHead 0 rfl (by omega) fun gC hC => ?_
  subst hC
  refine XK.openOwn 0 rfl fun cs h1 h2 h3 h4 => ?_
  dsimp only [List.set]
  obtain ⟨hnl, hnr⟩ := zw_len (f := clkC) (es := s.clocks) (bs := fa) (sz := 6) hfl (fun _ _ => rfl)
  have hs := flat_sub h2 hnl hnr (zw_get hc ha)
  refine XK.go ?_
  refine XK.draw 10 (by kernel_rfl) (by kernel_rfl) ?_
  refine XA.q 0 ?_
  refine XA.q 1 ?_
  refine XA.q 2 ?_
  refine XA.q 3 ?_
  refine XA.q 4 ?_
  refine XA.q 5 ?_
  refine XA.q 6 ?_ (hdo := dat (sz := 6) i (i * 6))
  refine XA.q 7 ?_
  refine XA.q 8 ?_
  refine XA.next 9 rfl (by kernel_rfl) ?_
  refine xk_callN (f := 52) (fi := []) (ca := []) (by kernel_rfl) rfl rfl (by decide) (OwnN_int c.src.length (intCells c.src)) (fun w1 st => ownN_int a.1 _ a.2 _ w1 (SlS.le hfrom (st.le (by simp))) (intCells_one _) hcs) ?_
  rintro _ _ q ⟨Af, kf, rfl, rfl⟩ _
  dsimp only [List.cons_append, List.nil_append]
  refine XA.bk ?_
  refine XA.next 10 rfl (by kernel_rfl) ?_
  refine kd (dat i (i * 6)) ?_
  refine XA.bt ?_
  refine XA.next 11 rfl (by kernel_rfl) ?_
  refine kdo ?_
  refine XA.bt ?_
  refine XA.next 12 rfl (by kernel_rfl) ?_
  refine kst rfl rfl ?_
  dsimp only [List.set]
  refine XA.bt ?_
  refine XA.done (by kernel_rfl) ?_
  have hs1 := hs.set 1 (.slice Af c.src.length kf) (by simp [clkC]) (by omega)
  have hu1 := (Upd.refl cs (i * 6) 6).set 1 (.slice Af c.src.length kf) (by decide)
  have hf := flat_upd (r' := clkC c (Af, kf)) h2 hnl hnr hlt (by omega) rfl hs1 hu1
  rw [show (clksR s fa).set i (clkC c (Af, kf)) = clksR s (fa.set i (Af, kf)) from zw_set hc (by omega)] at hf
  refine XK.closeOwn 1 (n := s.clocks.length) (c := j1) (sz := 6) rfl (by simpa using h1) hf h3 h4 ?_
  dsimp only [List.set]
  refine XK.ownPic 0 (Φ := fun p => SlS p 1 Af c.src.length (intCells c.src)) (hm := fun p q hl h => SlS.le h hl) rfl (fun p h => h) ?_
  dsimp only [List.set]
  refine XK.weak [0, 2, 1, 3, 4, 5, 6, 7] rfl (by decide) (fun _ h => h) ?_
  refine XK.joinPic (X := CkP s (fa.set i (Af, kf)) (i + 1)) (h3 := CkP.le) (fun p h1 h2 j c' a' hj hc' ha' => by
   rcases Nat.lt_or_ge j i with h | h
   ·rw [List.getElem?_set_ne (by omega)] at ha'
    exact h2 j c' a' h hc' ha'
   ·obtain rfl : j = i := by omega
    rw [hc] at hc'
    cases hc'
    rw [List.getElem?_set_self (by omega)] at ha'
    cases ha'
    exact h1) ?_
  refine XK.go ?_
  refine XK.envS [(23, .int .i64 (i + 1 : Nat)), (22, .int .i64 s.clocks.length), (3, .pointer (some ⟨g3, 0, none⟩)), (2, .pointer (some ⟨g2, 0, none⟩))] ?_
  refine XK.weakR (R' := [all w]) (by simp) ?_
  exact XK.round (s.clocks.length - (i + 1)) (by omega) ⟨i + 1, fa.set i (Af, kf), hlt, by simpa using hfl, fun j hj => by rw [List.getElem?_set_ne (by omega)]; exact hsame j (by omega), rfl, rfl, rfl, rfl⟩
 ·obtain rfl : i = s.clocks.length := by omega
  refine XK.chunk0 (p := HP.pic (DvP s da0 0) (DvP.le (s := s) (da := da0) (i := 0))) (fun w1 j d a hj => absurd hj (by omega)) ?_
  refine XK.go ?_
  refine XK.envS [(42, .int .i64 0), (41, .int .i64 s.devs.length), (3, .pointer (some ⟨g3, 0, none⟩)), (2, .pointer (some ⟨g2, 0, none⟩))] ?_
  refine XK.loop (fun m e R H => ∃ (i : Nat) (da : List (AC × AC)), i ≤ s.devs.length ∧ da.length = s.devs.length ∧ (∀ j, i ≤ j → da[j]? = da0[j]?) ∧ m = s.devs.length - i ∧ e = [(42, .int .i64 i), (41, .int .i64 s.devs.length), (3, .pointer (some ⟨g3, 0, none⟩)), (2, .pointer (some ⟨g2, 0, none⟩))] ∧ R = [all w] ∧ H = [HP.pic (DvP s da i) (DvP.le (s := s) (da := da) (i := i)), HP.pic (CkP s fa s.clocks.length) (CkP.le (s := s) (fa := fa) (i := s.clocks.length)), HP.own 64 6 (.slice C s.clocks.length j1) s.clocks.length (clksR s fa).flatten, HP.own 71 6 (.slice V s.devs.length j4) s.devs.length (devsR s da).flatten, HP.own 49 3 (.slice D s.domains.length j2) s.domains.length rd.flatten, HP.own 66 1 (.slice E s.resets.length j3) s.resets.length rr.flatten, HP.blk g3 34 [.slice C s.clocks.length j1, .slice D s.domains.length j2, .slice E s.resets.length j3, .slice V s.devs.length j4], HP.blk g2 34 [.slice none 0 0, .slice none 0 0, .slice none 0 0, .slice none 0 0]]) s.devs.length ⟨0, da0, by omega, hdl0, fun _ _ => rfl, rfl, rfl, rfl, rfl⟩ fun m e R H hI => ?_
  obtain ⟨i, da, hi, hdl, hsame2, rfl, rfl, rfl, rfl⟩ := hI
  refine XK.go ?_
  refine XK.if_ rfl (fun hlt => ?_) (fun hge => ?_)
  ·have hlt : i < s.devs.length := by omega
   obtain ⟨d, hd⟩ := get_some hlt
   obtain ⟨⟨a1, a2⟩, ha⟩ := get_some (l := da) (i := i) (by omega)
   have ha0 : da0[i]? = some (a1, a2) := by rw [← hsame2 i (Nat.le_refl _)]; exact ha
   obtain ⟨hregs, hneeds⟩ := hda0 i d _ hd ha0
   have hr1 := hsr d (List.mem_of_getElem? hd)
   have hr2 := sm6 d (List.mem_of_getElem? hd)
   refine XK.weak [3, 0, 1, 2, 4, 5, 6, 7] rfl (by decide) (fun _ h => h) ?_
   refine XK.ownHead 0 rfl (by omega) fun gV hV => ?_
   subst hV
   refine XK.openOwn 0 rfl fun cs h1 h2 h3 h4 => ?_
   dsimp only [List.set]
   obtain ⟨hnl, hnr⟩ := zw_len (f := devC) (es := s.devs) (bs := da) (sz := 6) hdl (fun _ _ => rfl)
   have hs := flat_sub h2 hnl hnr (zw_get hd ha)
   refine XK.go ?_
   refine kd (dat i (i * 6)) ?_
   refine XK.go ?_
   refine XK.drawB [3, 4, 5, 8, 9, 10] ?_
   refine XB.mv 0 ?_
   refine XB.mv 1 ?_
   refine XB.mv 2 ?_
   refine XB.mv 7 ?_
   refine XB.q 3 ?_
   refine XB.q 4 ?_
   refine XB.q 5 ?_
   refine XB.q 8 ?_
   refine XB.q 9 ?_
   refine XB.q 10 ?_
   refine XB.next 6 rfl (by kernel_rfl) ?_
   refine xk_callN (f := 53) (fi := []) (ca := []) (by kernel_rfl) rfl rfl (by decide) (OwnN_reg d.regs.length (d.regs.flatMap Rg.cells)) (fun w1 st => ownN_reg a1.1 _ a1.2 _ w1 (SlS.le hregs (st.le (by simp))) regs_one hr1) ?_
   rintro _ _ q1 ⟨Ag, kg, rfl, rfl⟩ _
   dsimp only [List.cons_append, List.nil_append]
   refine XB.bk ?_
   refine XB.next 11 rfl (by kernel_rfl) ?_
   refine xk_callN (f := 52) (fi := []) (ca := []) (by kernel_rfl) rfl rfl (by decide) (OwnN_int d.needs.length (intCells d.needs)) (fun w1 st => ownN_int a2.1 _ a2.2 _ w1 (SlS.le hneeds (st.le (by simp))) (intCells_one _) hr2) ?_
   rintro _ _ q2 ⟨An, kn, rfl, rfl⟩ _
   dsimp only [List.cons_append, List.nil_append]
   refine XB.bk ?_ (hS := fun _ h => h.tailR.tail.tailR.tail)
   refine XB.next 12 rfl (by kernel_rfl) ?_
   refine kdo ?_
   refine XB.bk ?_ (hS := fun _ h => h.tailR.tail.tailR.tail)
   refine XB.next 13 rfl (by kernel_rfl) ?_
   refine kdo ?_
   refine XB.bk ?_ (hS := fun _ h => h.tailR.tail.tailR.tail)
   refine XB.next 14 rfl (by kernel_rfl) ?_
   refine kst rfl rfl ?_
   dsimp only [List.set]
   refine XB.bt ?_
   refine XB.next 15 rfl (by kernel_rfl) ?_
   refine kdo ?_
   refine XB.bt ?_
   refine XB.next 16 rfl (by kernel_rfl) ?_
   refine kdo ?_
   refine XB.bt ?_
   refine XB.next 17 rfl (by kernel_rfl) ?_
   refine kst rfl rfl ?_
   dsimp only [List.set]
   refine XB.bt ?_
   refine XB.done (by kernel_rfl) ?_
   have hs1 := (hs.set 4 (.slice Ag d.regs.length kg) (by simp [devC]) (by omega)).set 5 (.slice An d.needs.length kn) (by simp [devC]) (by simp; omega)
   have hu1 := ((Upd.refl cs (i * 6) 6).set 4 (.slice Ag d.regs.length kg) (by decide)).set 5 (.slice An d.needs.length kn) (by decide)
   have hf := flat_upd (r' := devC d ((Ag, kg), (An, kn))) h2 hnl hnr hlt (by omega) rfl hs1 hu1
   rw [show (devsR s da).set i (devC d ((Ag, kg), (An, kn))) = devsR s (da.set i ((Ag, kg), (An, kn))) from zw_set hd (by omega)] at hf
   refine XK.closeOwn 2 (n := s.devs.length) (c := j4) (sz := 6) rfl (by simpa using h1) hf h3 h4 ?_
   dsimp only [List.set]
   refine XK.ownPic 0 (Φ := fun p => SlS p 1 An d.needs.length (intCells d.needs)) (hm := fun p q hl h => SlS.le h hl) rfl (fun p h => h) ?_
   refine XK.ownPic 1 (Φ := fun p => SlS p 2 Ag d.regs.length (d.regs.flatMap Rg.cells)) (hm := fun p q hl h => SlS.le h hl) rfl (fun p h => h) ?_
   dsimp only [List.set]
   refine XK.joinPic (X := fun p => SlS p 1 An d.needs.length (intCells d.needs) ∧ SlS p 2 Ag d.regs.length (d.regs.flatMap Rg.cells)) (h3 := fun p q hl h => ⟨SlS.le h.1 hl, SlS.le h.2 hl⟩) (fun p h1 h2 => ⟨h1, h2⟩) ?_
   refine XK.weak [0, 2, 3, 4, 1, 5, 6, 7, 8] rfl (by decide) (fun _ h => h) ?_
   refine XK.joinPic (X := DvP s (da.set i ((Ag, kg), (An, kn))) (i + 1)) (h3 := DvP.le) (fun p h1 h2 j d' a' hj hd' ha' => by
    rcases Nat.lt_or_ge j i with h | h
    ·rw [List.getElem?_set_ne (by omega)] at ha'
     exact h2 j d' a' h hd' ha'
    ·obtain rfl : j = i := by omega
     rw [hd] at hd'
     cases hd'
     rw [List.getElem?_set_self (by omega)] at ha'
     cases ha'
     exact ⟨h1.2, h1.1⟩) ?_
   refine XK.go ?_
   refine XK.envS [(42, .int .i64 (i + 1 : Nat)), (41, .int .i64 s.devs.length), (3, .pointer (some ⟨g3, 0, none⟩)), (2, .pointer (some ⟨g2, 0, none⟩))] ?_
   refine XK.weakR (R' := [all w]) (by simp) ?_
   exact XK.round (s.devs.length - (i + 1)) (by omega) ⟨i + 1, da.set i ((Ag, kg), (An, kn)), hlt, by simpa using hdl, fun j hj => by rw [List.getElem?_set_ne (by omega)]; exact hsame2 j (by omega), rfl, rfl, rfl, rfl⟩
  ·obtain rfl : i = s.devs.length := by omega
   refine XK.weak [6, 7, 0, 1, 2, 3, 4, 5] rfl (by decide) (fun _ h => h) ?_
   refine XK.go ?_
   refine XK.still [] [2, 3, 4, 5, 6, 7] [1] (by simp) rfl (by decide) (by decide) fun q hq _ hfr => ?_
   obtain ⟨F0, s0, z0⟩ := hq 2 _ (by simp) rfl
   obtain ⟨F1, s1, z1⟩ := hq 3 _ (by simp) rfl
   have e0 : DvP s da s.devs.length q := DvP.le ⟨q.w, F0⟩ q (fun b hb => ⟨z0 b hb, rfl⟩) s0
   have e1 : CkP s fa s.clocks.length q := CkP.le ⟨q.w, F1⟩ q (fun b hb => ⟨z1 b hb, rfl⟩) s1
   have e2 := SlS.own (hq 4 _ (by simp) rfl)
   have e3 := SlS.own (hq 5 _ (by simp) rfl)
   have e4 := SlS.own (hq 6 _ (by simp) rfl)
   have e5 := SlS.own (hq 7 _ (by simp) rfl)
   have hS : SocR (slq q) s #[.slice C s.clocks.length j1, .slice D s.domains.length j2, .slice E s.resets.length j3, .slice V s.devs.length j4] :=
    ⟨C, _, j1, D, _, j2, E, _, j3, V, _, j4, rfl, ⟨_, rows_clk hfl (fun i c a hc ha => e1 i c a (List.getElem?_eq_some_iff.1 hc).1 hc ha), rfl, e2⟩, ⟨rd, hrd, rfl, e4⟩, ⟨rr, hrr, rfl, e5⟩, ⟨_, rows_dev hdl (fun i d p hd hp => e0 i d p (List.getElem?_eq_some_iff.1 hd).1 hd hp), rfl, e3⟩⟩
   exact XK.retC (vs := [.slice C s.clocks.length j1, .slice D s.domains.length j2, .slice E s.resets.length j3, .slice V s.devs.length j4]) rfl (by kernel_rfl) rfl rfl (by first | assumption | exact RdN.whole 0 rfl | exact RdN.whole 1 rfl | exact RdN.whole 2 rfl | exact RdN.whole 3 rfl | exact RdN.whole 4 rfl | exact RdN.whole 5 rfl | exact RdN.whole 6 rfl | exact RdN.whole 7 rfl | exact RdN.whole 8 rfl | exact RdN.roc (by simp) (by assumption)) fun w1 t => ⟨⟨_, rfl, _, rfl, hS.mono (slq_le (t.fresh_le (by simp) (hfr (by simp) (by simp))))⟩, t.below (by simp)⟩
end
section
section
variable {P : Program} {N : Frm} {w0 w : World} {K : Act → World → Prop} {e : Env} {R : List Piece} {H H' : List HP}
theorem XK.push {p : HP} {ps : List HP} (h : XK N w0 K e R (HP.many (ps ++ [p]) :: H)) : XK N w0 K e R (p :: HP.many ps :: H) := fun a w hr st => by
  obtain ⟨Z, F, hz, hrr, hs, hff, hdd⟩ := st.ex
  obtain ⟨G, hG1, hG2, hG3⟩ := hs 1 _ rfl
  refine h a w hr ⟨st.os, st.tape, st.output, st.size, Z, fun j => match j with | 0 => fun b => F 0 b ∨ F 1 b | j + 1 => F (j + 2), hz, hrr, fun j r hj => ?_, fun j b hb => ?_, fun j k b hjk hj hk => ?_⟩
  · cases j with
    | zero =>
      simp at hj
      subst hj
      refine ⟨fun i b => if i < ps.length then G i b else i = ps.length ∧ F 0 b, fun i r hi => ?_, fun i b hb => ?_, fun i k b hik h1 h2 => ?_⟩
      · rcases Nat.lt_or_ge i ps.length with hl | hl
        · rw [List.getElem?_append_left hl] at hi
          show r.sat (fun b => if i < ps.length then G i b else i = ps.length ∧ F 0 b) w
          rw [show (fun b => if i < ps.length then G i b else i = ps.length ∧ F 0 b) = G i by funext b; rw [if_pos hl]]
          exact hG1 i r hi
        · rw [List.getElem?_append_right hl] at hi
          have h0 := hlt_of hi
          have hil : i = ps.length := by simp at h0; omega
          subst hil
          simp at hi
          subst hi
          show p.sat (fun b => if ps.length < ps.length then G ps.length b else ps.length = ps.length ∧ F 0 b) w
          rw [show (fun b => if ps.length < ps.length then G ps.length b else ps.length = ps.length ∧ F 0 b) = F 0 by funext b; simp]
          exact hs 0 _ rfl
      · dsimp only at hb
        split at hb
        · exact .inr (hG2 i b hb)
        · exact .inl hb.2
      · dsimp only at h1 h2
        split at h1 <;> split at h2
        · exact hG3 i k b hik h1 h2
        · exact hdd 1 0 b (by omega) (hG2 i b h1) h2.2
        · exact hdd 0 1 b (by omega) h1.2 (hG2 k b h2)
        · omega
    | succ j => exact hs (j + 2) r (by simpa using hj)
  · cases j with
    | zero => rcases hb with hb | hb <;> exact hff _ b hb
    | succ j => exact hff _ b hb
  · cases j with
    | zero => cases k with
      | zero => exact hjk rfl
      | succ k => rcases hj with hj | hj
                  · exact hdd 0 (k + 2) b (by omega) hj hk
                  · exact hdd 1 (k + 2) b (by omega) hj hk
    | succ j => cases k with
      | zero => rcases hk with hk | hk
                · exact hdd 0 (j + 2) b (by omega) hk hj
                · exact hdd 1 (j + 2) b (by omega) hk hj
      | succ k => exact hdd (j + 2) (k + 2) b (by omega) hj hk
end
theorem XK.three {N : Frm} {w0 : World} {e : Env} {R : List Piece} {H : List HP} {K : Act → World → Prop} {p q r : HP} (h : XK N w0 K e R (HP.many [p, q, r] :: H)) : XK N w0 K e R (p :: q :: r :: H) := by
 refine XK.pair ?_
 refine fun a w hr st => ?_
 refine (XK.push (ps := [p, q]) (p := r) h) a w hr (st.weak (fun _ h => h) (fun i => match i with
  | 0 => 1
  | 1 => 0
  | i + 2 => i + 2) (fun i j _ _ he => by
   match i, j with
   | 0, 0 => rfl
   | 0, 1 => simp at he
   | 0, j + 2 => simp at he
   | 1, 0 => simp at he
   | 1, 1 => rfl
   | 1, j + 2 => simp at he
   | i + 2, 0 => simp at he
   | i + 2, 1 => simp at he
   | i + 2, j + 2 => simpa using he) (fun i p hi => by
   match i, hi with
   | 0, hi => simpa using hi
   | 1, hi => simpa using hi
   | i + 2, hi => simpa using hi))
end
section
set_option maxHeartbeats 4000000
set_option maxRecDepth 20000
structure TL where
 t : Nat
 A : Option Addr
 c : Nat
 fa : List (Option Addr × Nat)
def nodeC (c : Clk) (a : Option Addr × Nat) (x : CkS) : List Value := [.int .u8 c.kind, .slice a.1 c.src.length a.2, .int .u64 c.rate, .int .i64 c.mul, .int .i64 c.div, .int .i64 c.lock, .bool x.on, .int .i64 x.left, .int .i64 0, .int .i64 0, .int .i64 (byF c)]
def nodesR (s : Soc) (fa : List (Option Addr × Nat)) (st : List CkS) : List (List Value) := List.zipWith (fun c p => nodeC c p.1 p.2) s.clocks (fa.zip st)
structure TreeR (w : World) (L : TL) (s : Soc) (st : List CkS) : Prop where
 r0 : ROc w L.t 0 (.slice L.A s.clocks.length L.c)
 row : SlS (all w) 11 L.A s.clocks.length (nodesR s L.fa st).flatten
 frm : ∀ (i : Nat) (c : Clk) (a : Option Addr × Nat), s.clocks[i]? = some c → L.fa[i]? = some a → SlS (all w) 1 a.1 c.src.length (intCells c.src)
 fl : L.fa.length = s.clocks.length
 ok : CkOk s st
theorem TreeR.below {w w' : World} {L : TL} {s : Soc} {st : List CkS} (h : TreeR w L s st) (hb : Below w.heap.size w w') : TreeR w' L s st :=
 ⟨⟨Nat.lt_of_lt_of_le h.r0.1 hb.size, (hb.cell (p := ⟨_, 0, none⟩) h.r0.1).trans h.r0.2⟩, h.row.le (all_le hb), fun i c a hc ha => (h.frm i c a hc ha).le (all_le hb), h.fl, h.ok⟩
def FrmP (s : Soc) (fa : List (Option Addr × Nat)) (p : Piece) : Prop := ∀ (i : Nat) (c : Clk) (a : Option Addr × Nat), s.clocks[i]? = some c → fa[i]? = some a → SlS p 1 a.1 c.src.length (intCells c.src)
theorem FrmP.le {s : Soc} {fa : List (Option Addr × Nat)} (p q : Piece) (hl : p.Le q) (h : FrmP s fa p) : FrmP s fa q := fun i c a hc ha => (h i c a hc ha).le hl
def TreeH (L : TL) (s : Soc) (st : List CkS) : HP := HP.many [HP.blk L.t 232 [.slice L.A s.clocks.length L.c], HP.own 234 11 (.slice L.A s.clocks.length L.c) s.clocks.length (nodesR s L.fa st).flatten, HP.pic (FrmP s L.fa) (FrmP.le (s := s) (fa := L.fa))]
theorem TreeH.reads {L : TL} {s : Soc} {st : List CkS} {F : Nat → Prop} {w : World} (h : (TreeH L s st).sat F w) (hF : ∀ b, F b → b < w.heap.size) (hfl : L.fa.length = s.clocks.length) (hok : CkOk s st) : TreeR w L s st := by
 obtain ⟨G, g1, g2, _⟩ := h
 have h0 := g1 0 _ rfl
 have h1 := g1 1 _ rfl
 have h2 := g1 2 _ rfl
 have hl : ∀ i b, G i b → b < w.heap.size := fun i b hb => hF b (g2 i b hb)
 obtain ⟨A', c', he, hs⟩ := SlS.of_own (Y := fun b => b < w.heap.size) h1 (hl 1)
 injection he with he
 subst he
 exact ⟨⟨h0.2.lt, by rw [h0.2.cell]; rfl⟩, hs, fun i c a hc ha => (h2 i c a hc ha).le (fun b hb => ⟨hl 2 b hb, rfl⟩), hfl, hok⟩
end
section
set_option maxHeartbeats 4000000
set_option maxRecDepth 20000
section
variable {N : Frm} {w0 w : World} {e : Env} {R : List Piece} {H : List HP} {K : Act → World → Prop} {L : TL} {s : Soc} {st : List CkS}
theorem St.treeR (t : St w0 R H w) (i : Nat) (hi : H[i]? = some (TreeH L s st)) (hfl : L.fa.length = s.clocks.length) (hok : CkOk s st) : TreeR w L s st := by
 obtain ⟨F, h1, h2, _⟩ := t.chunk hi
 exact TreeH.reads h1 h2 hfl hok
theorem Rd.tree (i : Nat) (hi : H[i]? = some (TreeH L s st)) (hfl : L.fa.length = s.clocks.length) (hok : CkOk s st) : Rd w0 R H L.t 0 (.slice L.A s.clocks.length L.c) := fun w t => (t.treeR i hi hfl hok).r0.2
theorem nodesR_get {i : Nat} {c : Clk} {a : Option Addr × Nat} {x : CkS} (hc : s.clocks[i]? = some c) (ha : L.fa[i]? = some a) (hx : st[i]? = some x) : (nodesR s L.fa st)[i]? = some (nodeC c a x) := by
 rw [nodesR, List.getElem?_zipWith, hc, (List.getElem?_zip_eq_some (z := (a, x))).2 ⟨ha, hx⟩]
end
end
section
set_option maxHeartbeats 4000000
set_option maxRecDepth 20000
theorem SlS.rowP {p : Piece} {sz n : Nat} {A : Option Addr} {rows : List (List Value)} (h : SlS p sz A n rows.flatten) (hl : ∀ r ∈ rows, r.length = sz) {k : Nat} {r : List Value} (hk : rows[k]? = some r) (hn : k < n) :
  ∃ b off, A = some ⟨b, off, none⟩ ∧ p.Z b ∧ ∀ j u, r[j]? = some u → p.w.cell? ⟨b, off + k * sz + j, none⟩ = some u := by
 obtain ⟨b, off, hA, hz, hc⟩ := SlS.at_ h hn
 refine ⟨b, off, hA, hz, fun j u hu => hc j u ?_⟩
 have hj : j < sz := by
  rw [← hl r (List.mem_of_getElem? hk)]
  exact (List.getElem?_eq_some_iff.1 hu).1
 rw [flat_at rows hl k j r hk hj, hu]
theorem RdN.roP {w0 : World} {R : List Piece} {H : List HP} {p : Piece} {b o : Nat} {vs : List Value} (hp : p ∈ R) (hz : p.Z b) (h : ∀ j u, vs[j]? = some u → p.w.cell? ⟨b, o + j, none⟩ = some u) : RdN w0 R H b o vs := .of fun j v hj => Rd.ro hp hz (h j v hj)
theorem checkS_call (s : Soc) (A1 A2 A3 A4 : Option Addr) (n1 k1 n2 k2 n3 k3 n4 k4 : Nat) (w : World) (hW : SocW w s A1 n1 A2 n2 A3 n3 A4 n4) (hchk : checkS s = 0) :
  Calls Tryz.prog 28 #[.agg #[.slice A1 n1 k1, .slice A2 n2 k2, .slice A3 n3 k3, .slice A4 n4 k4]] w (Rt (.int .i64 0) w) := by
 have := checkS_any s A1 A2 A3 A4 n1 k1 n2 k2 n3 k3 n4 k4 w hW
 rw [hchk] at this
 exact this
def TreeOk (s : Soc) (v : Value) (hs : List HP) (_ : Piece) : Prop := ∃ L : TL, v = .tuple #[.pointer (some ⟨L.t, 0, none⟩), .int .i64 0] ∧ hs = [TreeH L s (s.clocks.map ck0)] ∧ L.fa.length = s.clocks.length
theorem clkNew_ok (s : Soc) (hH : s.okH) (A1 A2 A3 A4 : Option Addr) (n1 k1 n2 k2 n3 k3 n4 k4 : Nat) (w : World) (hW : SocW w s A1 n1 A2 n2 A3 n3 A4 n4) :
  Calls Tryz.prog 29 #[.agg #[.slice A1 n1 k1, .slice A2 n2 k2, .slice A3 n3 k3, .slice A4 n4 k4]] w (fun y w' => (∃ v hs q, y = .returned v ∧ q.w = w' ∧ TreeOk s v hs q ∧ New w hs q) ∧ Below w.heap.size w w') := by
 have hnc := hH.t.nc
 have hsr : ∀ d ∈ s.devs, d.regs.length ≤ 1000000 := fun d hd => by
  obtain ⟨i, hi⟩ := List.getElem?_of_mem hd
  have := hH.t.devs i d hi
  unfold Dev.fit at this
  omega
 refine XK.enter (vs := [.agg #[.slice A1 n1 k1, .slice A2 n2 k2, .slice A3 n3 k3, .slice A4 n4 k4]]) Tryz.func29 rfl Tryz.ntmps29 (by simp) ?_
 refine XK.go ?_
 refine xk_box rfl (by decide) fun g1 => ?_
 dsimp only [Value.cells]
 refine XK.go ?_
 refine kcall (fun w1 t => checkS_call s A1 A2 A3 A4 n1 k1 n2 k2 n3 k3 n4 k4 w1 (hW.le (t.started (by simp))) hH.t.chk) ?_
 refine XK.go ?_
 refine xk_buildS (zs := [.slice none 0 0]) (L := [(0, 1)]) (zeroB_of (by kernel_rfl)) (by kernel_rfl) rfl (by simp [fillL, setN, Value.cells]; rfl) (by decide) ?_
 refine xk_box rfl (by decide) fun g2 => ?_
 dsimp only [Value.cells]
 refine XK.go ?_
 refine xk_call [] (f := 21) (fi := []) (ca := []) (by kernel_rfl) rfl rfl (by decide) (by simp) (CopyOk s) (fun w1 t => copy_any s A1 A2 A3 A4 n1 k1 n2 k2 n3 k3 n4 k4 w1 (hW.le (t.started (by simp))) hsr) ?_
 rintro _ w1 q1 ⟨cs1, rfl, hS⟩ hf1 _ hfr1
 have hfr1 := hfr1 (by simp)
 obtain ⟨B1, m1, j1, B2, m2, j2, B3, m3, j3, B4, m4, j4, rfl, hSQ⟩ := (hS.mono (slq_le hf1)).Q
 clear hf1 hS
 obtain ⟨rc, hrc, hm1, hsc⟩ := hSQ.clk
 obtain ⟨fa, hfl, rfl, hfa⟩ := clk_rows hrc
 subst hm1
 obtain ⟨hcl, hcr⟩ := zw_len (f := clkC) (es := s.clocks) (bs := fa) (sz := 6) hfl (fun _ _ => rfl)
 have hl0 : (s.clocks.map ck0).length = s.clocks.length := by simp
 refine kd (does_field1 (off := 0) (cs := [.slice B1 s.clocks.length j1, .slice B2 m2 j2, .slice B3 m3 j3, .slice B4 m4 j4]) (by kernel_rfl) rfl rfl) ?_
 refine XK.go ?_
 refine XK.nilrow 234 11 ?_
 refine XK.envS [(20, .int .i64 0), (19, .int .i64 s.clocks.length), (18, .slice B1 s.clocks.length j1), (5, .pointer (some ⟨g2, 0, none⟩))] ?_
 refine XK.loop (fun m e R H => ∃ (i : Nat) (A : Option Addr) (k : Nat), i ≤ s.clocks.length ∧ m = s.clocks.length - i ∧ e = [(20, .int .i64 i), (19, .int .i64 s.clocks.length), (18, .slice B1 s.clocks.length j1), (5, .pointer (some ⟨g2, 0, none⟩))] ∧ R = [q1, all w] ∧ H = [HP.own 234 11 (.slice A i k) i ((nodesR s fa (s.clocks.map ck0)).take i).flatten, HP.blk g2 232 [.slice A i k], HP.blk g1 34 [.slice A1 n1 k1, .slice A2 n2 k2, .slice A3 n3 k3, .slice A4 n4 k4]]) s.clocks.length ⟨0, none, 0, by omega, rfl, rfl, rfl, by simp⟩ fun m e R H hI => ?_
 obtain ⟨i, A, k, hi, rfl, rfl, rfl, rfl⟩ := hI
 refine XK.go ?_
 refine XK.if_ rfl (fun hlt => ?_) (fun hge => ?_)
 ·have hlt : i < s.clocks.length := by omega
  obtain ⟨c, hc⟩ := get_some hlt
  obtain ⟨a, ha⟩ := get_some (l := fa) (i := i) (by omega)
  obtain ⟨b, off, hB, hz, hcell⟩ := SlS.rowP hsc hcr (zw_get hc ha) hlt
  subst hB
  have hrow : (nodesR s fa (s.clocks.map ck0))[i]? = some (nodeC c a (ck0 c)) := nodesR_get (L := ⟨0, none, 0, fa⟩) hc ha (by rw [List.getElem?_map, hc]; rfl)
  have hsucc : ((nodesR s fa (s.clocks.map ck0)).take (i + 1)).flatten = ((nodesR s fa (s.clocks.map ck0)).take i).flatten ++ nodeC c a (ck0 c) := by
   rw [List.take_succ, hrow, List.flatten_append]; simp
  have hrn : ∀ H, RdN w [q1, all w] H b (off + i * 6) (clkC c a) := fun H => RdN.roP (by simp) hz hcell
  have hrn1 := hrn [HP.own 234 11 (.slice A i k) i ((nodesR s fa (s.clocks.map ck0)).take i).flatten, HP.blk g2 232 [.slice A i k], HP.blk g1 34 [.slice A1 n1 k1, .slice A2 n2 k2, .slice A3 n3 k3, .slice A4 n4 k4]]
  refine XK.go ?_
  refine kd (dat i (off + i * 6)) ?_
  refine XK.go ?_
  refine xk_alloc (cs := [.int .u8 0, .slice none 0 0, .int .u64 0, .int .i64 0, .int .i64 0, .int .i64 0]) (zeroB_of (by kernel_rfl)) (by decide) fun g3 => ?_
  obtain ⟨kd, src, rate, mul, dv, lock⟩ := c
  dsimp only [clkC]
  refine XK.go ?_
  refine xk_buildS (zs := [.int .u8 0, .slice none 0 0, .int .u64 0, .int .i64 0, .int .i64 0, .int .i64 0, .bool false, .int .i64 0, .int .i64 0, .int .i64 0, .int .i64 0]) (L := [(0, 6), (6, 1), (7, 1), (8, 1), (9, 1), (10, 1)]) (zeroB_of (by kernel_rfl)) (by kernel_rfl) rfl (by simp [fillL, setN, Value.cells]; rfl) (by decide) ?_
  refine xk_alloc (cs := [.int .u8 0, .slice none 0 0, .int .u64 0, .int .i64 0, .int .i64 0, .int .i64 0, .bool false, .int .i64 0, .int .i64 0, .int .i64 0, .int .i64 0]) (zeroB_of (by kernel_rfl)) (by decide) fun g4 => ?_
  have hfit := (hH.t.clocks i _ hc).2
  dsimp only at hfit
  rcases hfit with ⟨rfl, _⟩ | ⟨rfl, _⟩ | ⟨rfl, _⟩ | ⟨rfl, _⟩ | ⟨rfl, _⟩
  ·skip
   refine XK.go ?_
   refine XK.drawB [2, 3, 4, 5] ?_
   refine XB.mv 0 ?_
   refine XB.mv 1 ?_
   refine XB.q 2 ?_
   refine XB.q 3 ?_
   refine XB.q 4 ?_
   refine XB.q 5 ?_
   refine XB.next 6 rfl (by kernel_rfl) ?_
   refine xk_slice (el := 234) (sz := 11) (zs := [.int .u8 0, .slice none 0 0, .int .u64 0, .int .i64 0, .int .i64 0, .int .i64 0, .bool false, .int .i64 0, .int .i64 0, .int .i64 0, .int .i64 0]) (by kernel_rfl) (zeroB_of (by kernel_rfl)) (by kernel_rfl) rfl (by decide) (by decide) rfl (by simp [fillL, setN, Value.cells, List.range_succ, List.set]; rfl) (by decide) fun g5 => ?_
   refine XB.bk ?_
   refine XB.next 7 rfl (by kernel_rfl) ?_
   refine xk_appendT 3 11 104 1 (el := 234) (by kernel_rfl) (by kernel_rfl) (by decide) rfl rfl rfl (sl_blk 0 rfl rfl) (by simp [Value.oneCell']) rfl (by omega) (by omega) (by decide) fun A' k' => ?_
   dsimp only [List.set]
   refine XB.bt ?_
   refine XB.next 8 rfl (by kernel_rfl) ?_
   refine kdo ?_
   refine XB.bt ?_
   refine XB.next 9 rfl (by kernel_rfl) ?_
   refine kdo ?_
   refine XB.bt ?_
   refine XB.next 10 rfl (by kernel_rfl) ?_
   refine kst rfl rfl ?_
   dsimp only [List.set]
   refine XB.bt ?_
   refine XB.done (by kernel_rfl) ?_
   refine XK.go ?_
   refine XK.weak [3, 4, 5] rfl (by decide) (fun _ h => h) ?_
   refine XK.envS [(20, .int .i64 (i + 1 : Nat)), (19, .int .i64 s.clocks.length), (18, .slice (some ⟨b, off, none⟩) s.clocks.length j1), (5, .pointer (some ⟨g2, 0, none⟩))] ?_
   exact XK.round (s.clocks.length - (i + 1)) (by omega) ⟨i + 1, A', k', hlt, rfl, rfl, rfl, by rw [hsucc]; rfl⟩
  ·skip
   refine XK.go ?_
   refine XK.drawB [2, 3, 4, 5] ?_
   refine XB.mv 0 ?_
   refine XB.mv 1 ?_
   refine XB.q 2 ?_
   refine XB.q 3 ?_
   refine XB.q 4 ?_
   refine XB.q 5 ?_
   refine XB.next 6 rfl (by kernel_rfl) ?_
   refine xk_slice (el := 234) (sz := 11) (zs := [.int .u8 0, .slice none 0 0, .int .u64 0, .int .i64 0, .int .i64 0, .int .i64 0, .bool false, .int .i64 0, .int .i64 0, .int .i64 0, .int .i64 0]) (by kernel_rfl) (zeroB_of (by kernel_rfl)) (by kernel_rfl) rfl (by decide) (by decide) rfl (by simp [fillL, setN, Value.cells, List.range_succ, List.set]; rfl) (by decide) fun g5 => ?_
   refine XB.bk ?_
   refine XB.next 7 rfl (by kernel_rfl) ?_
   refine xk_appendT 3 11 104 1 (el := 234) (by kernel_rfl) (by kernel_rfl) (by decide) rfl rfl rfl (sl_blk 0 rfl rfl) (by simp [Value.oneCell']) rfl (by omega) (by omega) (by decide) fun A' k' => ?_
   dsimp only [List.set]
   refine XB.bt ?_
   refine XB.next 8 rfl (by kernel_rfl) ?_
   refine kdo ?_
   refine XB.bt ?_
   refine XB.next 9 rfl (by kernel_rfl) ?_
   refine kdo ?_
   refine XB.bt ?_
   refine XB.next 10 rfl (by kernel_rfl) ?_
   refine kst rfl rfl ?_
   dsimp only [List.set]
   refine XB.bt ?_
   refine XB.done (by kernel_rfl) ?_
   refine XK.go ?_
   refine XK.weak [3, 4, 5] rfl (by decide) (fun _ h => h) ?_
   refine XK.envS [(20, .int .i64 (i + 1 : Nat)), (19, .int .i64 s.clocks.length), (18, .slice (some ⟨b, off, none⟩) s.clocks.length j1), (5, .pointer (some ⟨g2, 0, none⟩))] ?_
   exact XK.round (s.clocks.length - (i + 1)) (by omega) ⟨i + 1, A', k', hlt, rfl, rfl, rfl, by rw [hsucc]; rfl⟩
  ·skip
   refine XK.go ?_
   refine XK.drawB [2, 3, 4, 5] ?_
   refine XB.mv 0 ?_
   refine XB.mv 1 ?_
   refine XB.q 2 ?_
   refine XB.q 3 ?_
   refine XB.q 4 ?_
   refine XB.q 5 ?_
   refine XB.next 6 rfl (by kernel_rfl) ?_
   refine xk_slice (el := 234) (sz := 11) (zs := [.int .u8 0, .slice none 0 0, .int .u64 0, .int .i64 0, .int .i64 0, .int .i64 0, .bool false, .int .i64 0, .int .i64 0, .int .i64 0, .int .i64 0]) (by kernel_rfl) (zeroB_of (by kernel_rfl)) (by kernel_rfl) rfl (by decide) (by decide) rfl (by simp [fillL, setN, Value.cells, List.range_succ, List.set]; rfl) (by decide) fun g5 => ?_
   refine XB.bk ?_
   refine XB.next 7 rfl (by kernel_rfl) ?_
   refine xk_appendT 3 11 104 1 (el := 234) (by kernel_rfl) (by kernel_rfl) (by decide) rfl rfl rfl (sl_blk 0 rfl rfl) (by simp [Value.oneCell']) rfl (by omega) (by omega) (by decide) fun A' k' => ?_
   dsimp only [List.set]
   refine XB.bt ?_
   refine XB.next 8 rfl (by kernel_rfl) ?_
   refine kdo ?_
   refine XB.bt ?_
   refine XB.next 9 rfl (by kernel_rfl) ?_
   refine kdo ?_
   refine XB.bt ?_
   refine XB.next 10 rfl (by kernel_rfl) ?_
   refine kst rfl rfl ?_
   dsimp only [List.set]
   refine XB.bt ?_
   refine XB.done (by kernel_rfl) ?_
   refine XK.go ?_
   refine XK.weak [3, 4, 5] rfl (by decide) (fun _ h => h) ?_
   refine XK.envS [(20, .int .i64 (i + 1 : Nat)), (19, .int .i64 s.clocks.length), (18, .slice (some ⟨b, off, none⟩) s.clocks.length j1), (5, .pointer (some ⟨g2, 0, none⟩))] ?_
   exact XK.round (s.clocks.length - (i + 1)) (by omega) ⟨i + 1, A', k', hlt, rfl, rfl, rfl, by rw [hsucc]; rfl⟩
  ·skip
   refine XK.go ?_
   refine XK.drawB [2, 3, 4, 5] ?_
   refine XB.mv 0 ?_
   refine XB.mv 1 ?_
   refine XB.q 2 ?_
   refine XB.q 3 ?_
   refine XB.q 4 ?_
   refine XB.q 5 ?_
   refine XB.next 6 rfl (by kernel_rfl) ?_
   refine xk_slice (el := 234) (sz := 11) (zs := [.int .u8 0, .slice none 0 0, .int .u64 0, .int .i64 0, .int .i64 0, .int .i64 0, .bool false, .int .i64 0, .int .i64 0, .int .i64 0, .int .i64 0]) (by kernel_rfl) (zeroB_of (by kernel_rfl)) (by kernel_rfl) rfl (by decide) (by decide) rfl (by simp [fillL, setN, Value.cells, List.range_succ, List.set]; rfl) (by decide) fun g5 => ?_
   refine XB.bk ?_
   refine XB.next 7 rfl (by kernel_rfl) ?_
   refine xk_appendT 3 11 104 1 (el := 234) (by kernel_rfl) (by kernel_rfl) (by decide) rfl rfl rfl (sl_blk 0 rfl rfl) (by simp [Value.oneCell']) rfl (by omega) (by omega) (by decide) fun A' k' => ?_
   dsimp only [List.set]
   refine XB.bt ?_
   refine XB.next 8 rfl (by kernel_rfl) ?_
   refine kdo ?_
   refine XB.bt ?_
   refine XB.next 9 rfl (by kernel_rfl) ?_
   refine kdo ?_
   refine XB.bt ?_
   refine XB.next 10 rfl (by kernel_rfl) ?_
   refine kst rfl rfl ?_
   dsimp only [List.set]
   refine XB.bt ?_
   refine XB.done (by kernel_rfl) ?_
   refine XK.go ?_
   refine XK.weak [3, 4, 5] rfl (by decide) (fun _ h => h) ?_
   refine XK.envS [(20, .int .i64 (i + 1 : Nat)), (19, .int .i64 s.clocks.length), (18, .slice (some ⟨b, off, none⟩) s.clocks.length j1), (5, .pointer (some ⟨g2, 0, none⟩))] ?_
   exact XK.round (s.clocks.length - (i + 1)) (by omega) ⟨i + 1, A', k', hlt, rfl, rfl, rfl, by rw [hsucc]; rfl⟩
  ·skip
   refine XK.go ?_
   refine XK.drawB [2, 3, 4, 5] ?_
   refine XB.mv 0 ?_
   refine XB.mv 1 ?_
   refine XB.q 2 ?_
   refine XB.q 3 ?_
   refine XB.q 4 ?_
   refine XB.q 5 ?_
   refine XB.next 6 rfl (by kernel_rfl) ?_
   refine xk_slice (el := 234) (sz := 11) (zs := [.int .u8 0, .slice none 0 0, .int .u64 0, .int .i64 0, .int .i64 0, .int .i64 0, .bool false, .int .i64 0, .int .i64 0, .int .i64 0, .int .i64 0]) (by kernel_rfl) (zeroB_of (by kernel_rfl)) (by kernel_rfl) rfl (by decide) (by decide) rfl (by simp [fillL, setN, Value.cells, List.range_succ, List.set]; rfl) (by decide) fun g5 => ?_
   refine XB.bk ?_
   refine XB.next 7 rfl (by kernel_rfl) ?_
   refine xk_appendT 3 11 104 1 (el := 234) (by kernel_rfl) (by kernel_rfl) (by decide) rfl rfl rfl (sl_blk 0 rfl rfl) (by simp [Value.oneCell']) rfl (by omega) (by omega) (by decide) fun A' k' => ?_
   dsimp only [List.set]
   refine XB.bt ?_
   refine XB.next 8 rfl (by kernel_rfl) ?_
   refine kdo ?_
   refine XB.bt ?_
   refine XB.next 9 rfl (by kernel_rfl) ?_
   refine kdo ?_
   refine XB.bt ?_
   refine XB.next 10 rfl (by kernel_rfl) ?_
   refine kst rfl rfl ?_
   dsimp only [List.set]
   refine XB.bt ?_
   refine XB.done (by kernel_rfl) ?_
   refine XK.go ?_
   refine XK.weak [3, 4, 5] rfl (by decide) (fun _ h => h) ?_
   refine XK.envS [(20, .int .i64 (i + 1 : Nat)), (19, .int .i64 s.clocks.length), (18, .slice (some ⟨b, off, none⟩) s.clocks.length j1), (5, .pointer (some ⟨g2, 0, none⟩))] ?_
   exact XK.round (s.clocks.length - (i + 1)) (by omega) ⟨i + 1, A', k', hlt, rfl, rfl, rfl, by rw [hsucc]; rfl⟩
 ·obtain rfl : i = s.clocks.length := by omega
  refine XK.go ?_
  have hfull : (nodesR s fa (s.clocks.map ck0)).take s.clocks.length = nodesR s fa (s.clocks.map ck0) := List.take_of_length_le (by simp [nodesR]; omega)
  rw [hfull]
  refine XK.weak [1, 0] rfl (by decide) (fun _ h => h) ?_
  refine XK.ownP hfr1 (by simp [all]) (Φ := FrmP s fa) (hm := FrmP.le (s := s) (fa := fa)) (fun i c a hc ha => hfa i c a hc ha) ?_
  refine XK.weak [1, 2, 0] rfl (by decide) (fun _ h => h) ?_
  refine XK.three ?_
  refine XK.still [] [] [0] (by simp) rfl (by decide) (by decide) fun q _ _ hfr => ?_
  exact XK.ret2 rfl rfl rfl fun w1 t => ⟨⟨_, _, ⟨w1, q.Z⟩, rfl, rfl, ⟨⟨g2, A, k, fa⟩, rfl, rfl, hfl⟩, t.newR (by simp) (by simp) (hfr (by simp) (by simp))⟩, t.below (by simp)⟩
end
section
set_option maxHeartbeats 4000000
set_option maxRecDepth 20000
structure GL where
 t : Nat
 A : Option Addr
 c : Nat
def domC (c : Dom) (x : DmS) : List Value := [.int .i64 c.above, .int .i64 c.delay, .bool c.ret, .int .u8 x.phase, .int .i64 x.left, .bool x.kept, .bool x.keep]
def domsR (s : Soc) (st : List DmS) : List (List Value) := List.zipWith domC s.domains st
abbrev GridH (L : GL) (s : Soc) (st : List DmS) : HP := RowH 237 239 7 L.t L.A s.domains.length L.c (domsR s st)
abbrev GridR (w : World) (L : GL) (s : Soc) (st : List DmS) : Prop := RowR w 7 L.t L.A s.domains.length L.c (domsR s st)
section
variable {s : Soc} {st : List DmS}
theorem domsR_get {i : Nat} {c : Dom} {x : DmS} (hc : s.domains[i]? = some c) (hx : st[i]? = some x) : (domsR s st)[i]? = some (domC c x) := by
 rw [domsR, List.getElem?_zipWith, hc, hx]
end
end
section
set_option maxHeartbeats 4000000
set_option maxRecDepth 20000
def lnV (r : Int) (x : LnS) : Value := .agg #[.int .i64 r, .int .i64 x.left, .bool x.held, .bool x.wanted]
def lnE (s : Soc) (st : List LnS) (i : Nat) : Int × Value := ((i : Int), lnV (s.resets.getD i 0) (st.getD i ln0))
def lnL (s : Soc) (st : List LnS) : List (Int × Value) := (List.range st.length).map (lnE s st)
theorem mget_map (f : Nat → Value) (n : Nat) (i : Int) : mget ((List.range n).map fun j : Nat => ((j : Int), f j)) i = if inB n i then some (f i.toNat) else none := by
 induction n with
 | zero =>
  have : inB 0 i = false := decide_eq_false (by omega)
  rw [this]; rfl
 | succ n ih =>
  have h0 : mget ((List.range (n + 1)).map fun j : Nat => ((j : Int), f j)) i = (mget ((List.range n).map fun j : Nat => ((j : Int), f j)) i).or (mget [((n : Int), f n)] i) := by
   rw [List.range_succ, List.map_append]
   unfold mget
   rw [List.find?_append]
   cases List.find? (fun p => decide (p.1 = i)) ((List.range n).map fun j : Nat => ((j : Int), f j)) <;> rfl
  rw [h0, ih]
  by_cases h1 : inB n i = true
  ·have : inB (n + 1) i = true := by have := of_decide_eq_true h1; exact decide_eq_true (by omega)
   rw [if_pos h1, if_pos this]; rfl
  ·have hf : inB n i = false := by simpa using h1
   have := of_decide_eq_false hf
   rw [if_neg h1, mget_cons]
   by_cases h2 : (n : Int) = i
   ·subst h2
    have : inB (n + 1) (n : Int) = true := decide_eq_true (by omega)
    rw [if_pos rfl, if_pos this]; rfl
   ·have h3 : inB (n + 1) i = false := decide_eq_false (by omega)
    rw [if_neg h2, h3]; rfl
structure RL where
 t : Nat
 g : Nat
def LinesH (L : RL) (s : Soc) (st : List LnS) : HP := HP.many [HP.blk L.t 242 [.map (some L.g)], HP.map L.g (lnL s st)]
structure LinesR (w : World) (L : RL) (s : Soc) (st : List LnS) : Prop where
 r0 : ROc w L.t 0 (.map (some L.g))
 m : MapI w L.g (lnL s st)
theorem LinesR.below {w w' : World} {L : RL} {s : Soc} {st : List LnS} (h : LinesR w L s st) (hb : Below w.heap.size w w') : LinesR w' L s st :=
 ⟨⟨Nat.lt_of_lt_of_le h.r0.1 hb.size, (hb.cell (p := ⟨_, 0, none⟩) h.r0.1).trans h.r0.2⟩, h.m.below hb⟩
section
variable {N : Frm} {w0 w : World} {e : Env} {R : List Piece} {H : List HP} {K : Act → World → Prop} {L : RL} {s : Soc} {st : List LnS}
theorem LinesH.reads {F : Nat → Prop} (h : (LinesH L s st).sat F w) : LinesR w L s st := by
 obtain ⟨G, g1, g2, _⟩ := h
 have h0 := g1 0 _ rfl
 exact ⟨⟨h0.2.lt, by rw [h0.2.cell]; rfl⟩, (g1 1 _ rfl).2⟩
end
end
section
set_option maxHeartbeats 4000000
set_option maxRecDepth 20000
theorem dom_rows : ∀ {cl : List Dom} {rs : List (List Value)}, Rows DomR 3 cl rs → rs = cl.map fun d => [.int .i64 d.above, .int .i64 d.delay, .bool d.ret]
 | [], [], _ => rfl
 | e :: es, r :: rs, h => by
  have h1 : r = [.int .i64 e.above, .int .i64 e.delay, .bool e.ret] := h.2.1
  rw [h1, dom_rows h.2.2]
  rfl
theorem rst_rows : ∀ {cl : List Int} {rs : List (List Value)}, Rows RstR 1 cl rs → rs = cl.map fun d => [.int .i64 d]
 | [], [], _ => rfl
 | e :: es, r :: rs, h => by
  have h1 : r = [.int .i64 e] := h.2.1
  rw [h1, rst_rows h.2.2]
  rfl
def GridOk (s : Soc) (v : Value) (hs : List HP) (_ : Piece) : Prop := ∃ L : GL, v = .tuple #[.pointer (some ⟨L.t, 0, none⟩), .int .i64 0] ∧ hs = [GridH L s (s.domains.map fun _ => dm0)]
theorem powNew_ok (s : Soc) (hH : s.okH) (A1 A2 A3 A4 : Option Addr) (n1 k1 n2 k2 n3 k3 n4 k4 : Nat) (w : World) (hW : SocW w s A1 n1 A2 n2 A3 n3 A4 n4) :
  Calls Tryz.prog 30 #[.agg #[.slice A1 n1 k1, .slice A2 n2 k2, .slice A3 n3 k3, .slice A4 n4 k4]] w (fun y w' => (∃ v hs q, y = .returned v ∧ q.w = w' ∧ GridOk s v hs q ∧ New w hs q) ∧ Below w.heap.size w w') := by
 have hnd := hH.t.nd
 obtain ⟨rd, hrd, hn2, hsd⟩ := hW.dom
 have hrd := dom_rows hrd
 subst hrd; subst hn2
 have hdl : (s.domains.map fun _ => dm0).length = s.domains.length := by simp
 refine XK.enter (vs := [.agg #[.slice A1 n1 k1, .slice A2 s.domains.length k2, .slice A3 n3 k3, .slice A4 n4 k4]]) Tryz.func30 rfl Tryz.ntmps30 (by simp) ?_
 refine XK.go ?_
 refine xk_box rfl (by decide) fun g1 => ?_
 dsimp only [Value.cells]
 refine XK.go ?_
 refine kcall (fun w1 t => checkS_call s A1 A2 A3 A4 n1 k1 _ k2 n3 k3 n4 k4 w1 (hW.le (t.started (by simp))) hH.t.chk) ?_
 refine XK.go ?_
 refine xk_buildS (zs := [.slice none 0 0]) (L := [(0, 1)]) (zeroB_of (by kernel_rfl)) (by kernel_rfl) rfl (by simp [fillL, setN, Value.cells]; rfl) (by decide) ?_
 refine xk_box rfl (by decide) fun g2 => ?_
 dsimp only [Value.cells]
 refine XK.go ?_
 refine XK.nilrow 239 7 ?_
 refine XK.envS [(18, .int .i64 0), (17, .int .i64 s.domains.length), (16, .slice A2 s.domains.length k2), (5, .pointer (some ⟨g2, 0, none⟩))] ?_
 refine XK.loop (fun m e R H => ∃ (i : Nat) (A : Option Addr) (k : Nat), i ≤ s.domains.length ∧ m = s.domains.length - i ∧ e = [(18, .int .i64 i), (17, .int .i64 s.domains.length), (16, .slice A2 s.domains.length k2), (5, .pointer (some ⟨g2, 0, none⟩))] ∧ R = [all w] ∧ H = [HP.own 239 7 (.slice A i k) i ((domsR s (s.domains.map fun _ => dm0)).take i).flatten, HP.blk g2 237 [.slice A i k], HP.blk g1 34 [.slice A1 n1 k1, .slice A2 s.domains.length k2, .slice A3 n3 k3, .slice A4 n4 k4]]) s.domains.length ⟨0, none, 0, by omega, rfl, rfl, rfl, by simp⟩ fun m e R H hI => ?_
 obtain ⟨i, A, k, hi, rfl, rfl, rfl, rfl⟩ := hI
 refine XK.go ?_
 refine XK.if_ rfl (fun hlt => ?_) (fun hge => ?_)
 ·have hlt : i < s.domains.length := by omega
  obtain ⟨c, hc⟩ := get_some hlt
  obtain ⟨b, off, hB, hro⟩ := SlS.row hsd (fun r hr => by obtain ⟨q, _, rfl⟩ := List.mem_map.1 hr; rfl) (r := [.int .i64 c.above, .int .i64 c.delay, .bool c.ret]) (by rw [List.getElem?_map, hc]; rfl) hlt
  subst hB
  have hrow : (domsR s (s.domains.map fun _ => dm0))[i]? = some (domC c dm0) := domsR_get hc (by rw [List.getElem?_map, hc]; rfl)
  have hsucc : ((domsR s (s.domains.map fun _ => dm0)).take (i + 1)).flatten = ((domsR s (s.domains.map fun _ => dm0)).take i).flatten ++ domC c dm0 := by
   rw [List.take_succ, hrow, List.flatten_append]; simp
  refine XK.go ?_
  refine kd (dat i (off + i * 3)) ?_
  refine XK.go ?_
  refine xk_alloc (cs := [.int .i64 0, .int .i64 0, .bool false]) (zeroB_of (by kernel_rfl)) (by decide) fun g3 => ?_
  refine XK.go ?_
  refine XK.drawB [2, 3, 4, 5, 6] ?_
  refine XB.mv 0 ?_
  refine XB.mv 1 ?_
  refine XB.q 2 ?_
  refine XB.q 3 ?_
  refine XB.q 4 ?_
  refine XB.q 5 ?_
  refine XB.q 6 ?_ (hdo := does_buildS (zs := [.int .i64 0, .int .i64 0, .bool false, .int .u8 0, .int .i64 0, .bool false, .bool false]) (L := [(0, 3), (3, 1), (4, 1), (5, 1), (6, 1)]) (zeroB_of (by kernel_rfl)) (by kernel_rfl) rfl (by simp [fillL, setN, Value.cells]; rfl))
  refine XB.next 7 rfl (by kernel_rfl) ?_
  refine xk_slice (el := 239) (sz := 7) (zs := [.int .i64 0, .int .i64 0, .bool false, .int .u8 0, .int .i64 0, .bool false, .bool false]) (by kernel_rfl) (zeroB_of (by kernel_rfl)) (by kernel_rfl) rfl (by decide) (by decide) rfl (by simp [fillL, setN, Value.cells, List.range_succ, List.set]; rfl) (by decide) fun g5 => ?_
  refine XB.bk ?_
  refine XB.next 8 rfl (by kernel_rfl) ?_
  refine xk_appendT 2 7 48 1 (el := 239) (by kernel_rfl) (by kernel_rfl) (by decide) rfl rfl rfl (sl_blk 0 rfl rfl) (by simp [Value.oneCell']) rfl (by omega) (by omega) (by decide) fun A' k' => ?_
  dsimp only [List.set]
  refine XB.bt ?_
  refine XB.next 9 rfl (by kernel_rfl) ?_
  refine kdo ?_
  refine XB.bt ?_
  refine XB.next 10 rfl (by kernel_rfl) ?_
  refine kdo ?_
  refine XB.bt ?_
  refine XB.next 11 rfl (by kernel_rfl) ?_
  refine kst rfl rfl ?_
  dsimp only [List.set]
  refine XB.bt ?_
  refine XB.done (by kernel_rfl) ?_
  refine XK.go ?_
  refine XK.weak [2, 3, 4] rfl (by decide) (fun _ h => h) ?_
  refine XK.envS [(18, .int .i64 (i + 1 : Nat)), (17, .int .i64 s.domains.length), (16, .slice (some ⟨b, off, none⟩) s.domains.length k2), (5, .pointer (some ⟨g2, 0, none⟩))] ?_
  exact XK.round (s.domains.length - (i + 1)) (by omega) ⟨i + 1, A', k', hlt, rfl, rfl, rfl, by rw [hsucc]; rfl⟩
 ·obtain rfl : i = s.domains.length := by omega
  refine XK.go ?_
  have hfull : (domsR s (s.domains.map fun _ => dm0)).take s.domains.length = domsR s (s.domains.map fun _ => dm0) := List.take_of_length_le (by simp [domsR])
  rw [hfull]
  refine XK.weak [1, 0] rfl (by decide) (fun _ h => h) ?_
  refine XK.pair ?_
  refine XK.still [] [] [0] (by simp) rfl (by decide) (by decide) fun q _ _ hfr => ?_
  exact XK.ret2 rfl rfl rfl fun w1 t => ⟨⟨_, _, ⟨w1, q.Z⟩, rfl, rfl, ⟨⟨g2, A, k⟩, rfl, rfl⟩, t.newR (by simp) (by simp) (hfr (by simp) (by simp))⟩, t.below (by simp)⟩
theorem xk_makeMapH {N : Frm} {w0 : World} {e : Env} {R : List Piece} {H : List HP} {Q : Exit → Act → World → Prop} {ops : Array Oper} {rest : List Oper} {d : Nat} {ty : TypeId} {pos : String} {aft : Array Edge} {x : Operand} {n : Int} {t kt et : TypeId} (ht : Tryz.prog.underlying t = some (.map kt et)) (hx : e.ev x = some (.int .i64 n)) (hd : d < N.n) (k : ∀ g, XK N w0 (wpList Tryz.prog ops Q rest) ((d, .map (some g)) :: e) R (HP.map g [] :: H)) : XK N w0 (wpList Tryz.prog ops Q (⟨some d, .makeMap t (some x), ty, pos, aft, none⟩ :: rest)) e R H :=
 xk_run rfl fun a w hr st => ⟨.map (some w.heap.size), w.alloc (.map #[] 0), by simp [execOp, Instr.makeMap, hr.ev hx, run_underlying ht, asInt, asIntOf], k w.heap.size _ _ (hr.put hd _) (st.new (alloc_below w _) ⟨⟨Nat.le_refl _, by simp⟩, #[], 0, heap_alloc_new w _, rfl⟩)⟩
def LinesOk (s : Soc) (v : Value) (hs : List HP) (_ : Piece) : Prop := ∃ L : RL, v = .tuple #[.pointer (some ⟨L.t, 0, none⟩), .int .i64 0] ∧ hs = [LinesH L s (s.resets.map fun _ => ln0)]
theorem mset_new (l : List (Int × Value)) (k : Int) (v : Value) (h : mget l k = none) : mset l k v = l ++ [(k, v)] := by
 induction l with
 | nil => rfl
 | cons p l ih =>
  obtain ⟨a, b⟩ := p
  rw [mget_cons] at h
  rw [mset]
  split at h
  ·cases h
  ·rename_i hne
   rw [if_neg hne, ih h]
   rfl
theorem rstNew_ok (s : Soc) (hH : s.okH) (A1 A2 A3 A4 : Option Addr) (n1 k1 n2 k2 n3 k3 n4 k4 : Nat) (w : World) (hW : SocW w s A1 n1 A2 n2 A3 n3 A4 n4) :
  Calls Tryz.prog 31 #[.agg #[.slice A1 n1 k1, .slice A2 n2 k2, .slice A3 n3 k3, .slice A4 n4 k4]] w (fun y w' => (∃ v hs q, y = .returned v ∧ q.w = w' ∧ LinesOk s v hs q ∧ New w hs q) ∧ Below w.heap.size w w') := by
 have hnr := hH.t.nr
 obtain ⟨rr, hrr, hn3, hst⟩ := hW.rst
 have hrr := rst_rows hrr
 subst hrr; subst hn3
 have hll : (s.resets.map fun _ => ln0).length = s.resets.length := by simp
 refine XK.enter (vs := [.agg #[.slice A1 n1 k1, .slice A2 n2 k2, .slice A3 s.resets.length k3, .slice A4 n4 k4]]) Tryz.func31 rfl Tryz.ntmps31 (by simp) ?_
 refine XK.go ?_
 refine xk_box rfl (by decide) fun g1 => ?_
 dsimp only [Value.cells]
 refine XK.go ?_
 refine kcall (fun w1 t => checkS_call s A1 A2 A3 A4 n1 k1 n2 k2 _ k3 n4 k4 w1 (hW.le (t.started (by simp))) hH.t.chk) ?_
 refine XK.go ?_
 refine xk_makeMapH (kt := 3) (et := 244) (by kernel_rfl) rfl (by decide) fun gm => ?_
 refine xk_buildS (zs := [.map none]) (L := [(0, 1)]) (zeroB_of (by kernel_rfl)) (by kernel_rfl) rfl (by simp [fillL, setN, Value.cells]; rfl) (by decide) ?_
 refine xk_box rfl (by decide) fun g2 => ?_
 dsimp only [Value.cells]
 refine XK.go ?_
 refine XK.envS [(22, .int .i64 0), (21, .int .i64 s.resets.length), (20, .slice A3 s.resets.length k3), (5, .pointer (some ⟨g2, 0, none⟩))] ?_
 refine XK.loop (fun m e R H => ∃ i : Nat, i ≤ s.resets.length ∧ m = s.resets.length - i ∧ e = [(22, .int .i64 i), (21, .int .i64 s.resets.length), (20, .slice A3 s.resets.length k3), (5, .pointer (some ⟨g2, 0, none⟩))] ∧ R = [all w] ∧ H = [HP.blk g2 242 [.map (some gm)], HP.map gm ((List.range i).map (lnE s (s.resets.map fun _ => ln0))), HP.blk g1 34 [.slice A1 n1 k1, .slice A2 n2 k2, .slice A3 s.resets.length k3, .slice A4 n4 k4]]) s.resets.length ⟨0, by omega, rfl, rfl, rfl, rfl⟩ fun m e R H hI => ?_
 obtain ⟨i, hi, rfl, rfl, rfl, rfl⟩ := hI
 refine XK.go ?_
 refine XK.if_ rfl (fun hlt => ?_) (fun hge => ?_)
 ·have hlt : i < s.resets.length := by omega
  obtain ⟨c, hc⟩ := get_some hlt
  obtain ⟨b, off, hB, hro⟩ := SlS.row hst (fun r hr => by obtain ⟨q, _, rfl⟩ := List.mem_map.1 hr; rfl) (r := [.int .i64 c]) (by rw [List.getElem?_map, hc]; rfl) hlt
  subst hB
  have hset : mset ((List.range i).map (lnE s (s.resets.map fun _ => ln0))) (i : Int) (lnV c ln0) = (List.range (i + 1)).map (lnE s (s.resets.map fun _ => ln0)) := by
   rw [mset_new _ _ _ (by
    have := mget_map (fun j => lnV (s.resets.getD j 0) ((s.resets.map fun _ => ln0).getD j ln0)) i (i : Int)
    rw [if_neg (by simp [inB])] at this
    exact this), List.range_succ, List.map_append]
   congr 1
   simp [lnE, List.getD_eq_getElem?_getD, hc]
  refine XK.go ?_
  refine kd (dat i (off + i * 1)) ?_
  refine XK.go ?_
  refine xk_alloc (cs := [.int .i64 0]) (zeroB_of (by kernel_rfl)) (by decide) fun g3 => ?_
  refine XK.go ?_
  refine XK.drawB [1, 2, 3, 5, 6, 7] ?_
  refine XB.mv 0 ?_
  refine XB.q 1 ?_
  refine XB.q 2 ?_
  refine XB.q 3 ?_
  refine XB.mv 4 ?_
  refine XB.q 5 ?_
  refine XB.q 6 ?_
  refine XB.q 7 ?_ (hdo := does_buildS (zs := [.int .i64 0, .int .i64 0, .bool false, .bool false]) (L := [(0, 1), (1, 1), (2, 1), (3, 1)]) (zeroB_of (by kernel_rfl)) (by kernel_rfl) rfl (by simp [fillL, setN, Value.cells]; rfl))
  refine XB.next 8 rfl (by kernel_rfl) ?_
  refine xk_mapUpdate (kt := 3) (et := 244) (kd := .i64) (l := (List.range i).map (lnE s (s.resets.map fun _ => ln0))) (v := lnV c ln0) 2 (by kernel_rfl) (by kernel_rfl) rfl rfl rfl rfl ?_
  rw [hset]
  dsimp only [List.set]
  refine XB.bt ?_
  refine XB.done (by kernel_rfl) ?_
  refine XK.go ?_
  refine XK.weak [1, 2, 3] rfl (by decide) (fun _ h => h) ?_
  refine XK.envS [(22, .int .i64 (i + 1 : Nat)), (21, .int .i64 s.resets.length), (20, .slice (some ⟨b, off, none⟩) s.resets.length k3), (5, .pointer (some ⟨g2, 0, none⟩))] ?_
  exact XK.round (s.resets.length - (i + 1)) (by omega) ⟨i + 1, hlt, rfl, rfl, rfl, rfl⟩
 ·obtain rfl : i = s.resets.length := by omega
  refine XK.go ?_
  refine XK.pair ?_
  refine XK.still [] [] [0] (by simp) rfl (by decide) (by decide) fun q _ _ hfr => ?_
  exact XK.ret2 rfl rfl rfl fun w1 t => ⟨⟨_, _, ⟨w1, q.Z⟩, rfl, rfl, ⟨⟨g2, gm⟩, rfl, by simp [LinesH, lnL]⟩, t.newR (by simp) (by simp) (hfr (by simp) (by simp))⟩, t.below (by simp)⟩
end
end Go.Proofs.YtcoifdhdhglioaaGreat
