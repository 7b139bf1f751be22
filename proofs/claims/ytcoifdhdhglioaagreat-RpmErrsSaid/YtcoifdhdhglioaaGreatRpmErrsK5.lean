/- package bus, package quiet. -/
import Derived.Tactics2
import Derived.Test.YtcoifdhdhglioaaGreatRpmErrsK4
namespace Go.Proofs.YtcoifdhdhglioaaGreat
set_option linter.all false
open Go.RowKit
section
set_option maxHeartbeats 4000000
set_option maxRecDepth 20000
structure Txn where
 id : Int
 wr : Bool
 reg : Int
 val : Int
def Txn.cells (t : Txn) : List Value := [.int .i64 t.id, .bool t.wr, .int .i64 t.reg, .int .u32 t.val]
def QH (v : Value) : Option Txn → HP
 | none => HP.pure (∃ A, v = .slice A 0 0)
 | some t => HP.own 351 4 v 1 t.cells
structure BL where
 b : Nat
 gr : Nat
 gw : Nat
def wtN (ws : List (Option Txn)) (i : Nat) : Nat := if ((ws[i]?).join).isSome then 1 else 0
def WaitH (g n : Nat) (ws : List (Option Txn)) : HP := HP.ex fun vs : List Value => HP.many (HP.blk g 349 vs :: HP.pure (vs.length = n) :: (List.range n).map fun i => QH (vs.getD i undef) (ws[i]?).join)
def BusH (L : BL) (ms : List Int) (ws : List (Option Txn)) (posted : Int) : HP := HP.many [HP.blk L.b 251 [.slice (some ⟨L.gr, 0, none⟩) ms.length ms.length, .slice (some ⟨L.gw, 0, none⟩) ms.length ms.length, .int .i64 posted], HP.blk L.gr 3 (intCells ms), WaitH L.gw ms.length ws]
structure BusR (w : World) (L : BL) (ms : List Int) (ws : List (Option Txn)) (posted : Int) : Prop where
 r0 : ROn w L.b 0 [.slice (some ⟨L.gr, 0, none⟩) ms.length ms.length, .slice (some ⟨L.gw, 0, none⟩) ms.length ms.length, .int .i64 posted]
 rg : ROn w L.gr 0 (intCells ms)
 wt : ∀ i, i < ms.length → ∃ A c, ROc w L.gw i (.slice A (wtN ws i) c)
theorem BusR.below {w w' : World} {L : BL} {ms : List Int} {ws : List (Option Txn)} {posted : Int} (h : BusR w L ms ws posted) (hb : Below w.heap.size w w') : BusR w' L ms ws posted :=
 ⟨h.r0.below hb, h.rg.below hb, fun i hi => by
  obtain ⟨A, c, h1, h2⟩ := h.wt i hi
  exact ⟨A, c, Nat.lt_of_lt_of_le h1 hb.size, (hb.cell (p := ⟨_, i, none⟩) h1).trans h2⟩⟩
theorem BusH.reads {L : BL} {ms : List Int} {ws : List (Option Txn)} {posted : Int} {F : Nat → Prop} {w : World} (h : (BusH L ms ws posted).sat F w) : BusR w L ms ws posted := by
 obtain ⟨G, g1, g2, _⟩ := h
 refine ⟨blk_ron (g1 0 _ rfl).2, blk_ron (g1 1 _ rfl).2, fun i hi => ?_⟩
 obtain ⟨vs, G', k1, _, _⟩ := g1 2 _ rfl
 have hb := blk_ron (k1 0 _ rfl).2
 have hl : vs.length = ms.length := k1 1 _ rfl
 obtain ⟨v, hv⟩ := get_some (l := vs) (i := i) (by omega)
 have hq := k1 (i + 2) (QH (vs.getD i undef) (ws[i]?).join) (by
  rw [List.getElem?_cons_succ, List.getElem?_cons_succ, List.getElem?_map, List.getElem?_range hi]; rfl)
 rw [List.getD_eq_getElem?_getD, hv] at hq
 have hc := hb.at_ hv
 rw [Nat.zero_add] at hc
 unfold wtN
 cases hj : (ws[i]?).join with
 | none =>
  rw [hj] at hq
  obtain ⟨A, hA⟩ : ∃ A, v = .slice A 0 0 := hq
  subst hA
  exact ⟨A, 0, hc⟩
 | some t =>
  rw [hj] at hq
  obtain ⟨A, c, hA, _⟩ := SlS.of_own (Y := fun _ => True) hq (fun _ _ => trivial)
  have hA : v = .slice A 1 c := hA
  subst hA
  exact ⟨A, c, hc⟩
section
variable {N : Frm} {w0 w : World} {e : Env} {R : List Piece} {H : List HP} {K : Act → World → Prop} {L : BL} {ms : List Int} {ws : List (Option Txn)} {posted : Int}
end
def BusOk (ms : List Int) (v : Value) (hs : List HP) (_ : Piece) : Prop := ∃ L : BL, v = .tuple #[.pointer (some ⟨L.b, 0, none⟩), .int .i64 0] ∧ hs = [BusH L ms (ms.map fun _ => none) 0]
theorem waitH_new {N : Frm} {w0 : World} {e : Env} {R : List Piece} {H : List HP} {K : Act → World → Prop} {g n : Nat} {β : Type} (l : List β) (hl : l.length = n) (i : Nat) (hi : H[i]? = some (HP.blk g 349 (List.replicate n (.slice none 0 0)))) (h : XK N w0 K e R (H.set i (WaitH g n (l.map fun _ => none)))) : XK N w0 K e R H := by
 refine XK.reuse (q := WaitH g n (l.map fun _ => none)) i hi (fun F w hs => ⟨List.replicate n (.slice none 0 0), fun k b => k = 0 ∧ F b, fun k p hk => ?_, fun k b h => h.2, fun k j b hkj h1 h2 => by have := h1.1; have := h2.1; omega⟩) h
 match k, hk with
 | 0, hk =>
  simp at hk; subst hk
  show (HP.blk g 349 (List.replicate n (.slice none 0 0))).sat (fun b => 0 = 0 ∧ F b) w
  rw [show (fun b => 0 = 0 ∧ F b) = F by funext b; simp]
  exact hs
 | 1, hk => cases hk; show (List.replicate n (Value.slice none 0 0)).length = n; simp
 | k + 2, hk =>
  rw [List.getElem?_cons_succ, List.getElem?_cons_succ, List.getElem?_map] at hk
  cases hr : (List.range n)[k]? with
  | none => rw [hr] at hk; cases hk
  | some j =>
   rw [hr] at hk
   have hj : j < n := List.mem_range.1 (List.mem_of_getElem? hr)
   have : ((l.map fun _ => (none : Option Txn))[j]?).join = none := by
    rw [List.getElem?_map]
    cases l[j]? <;> rfl
   simp only [Option.map_some, Option.some.injEq, this] at hk
   subst hk
   refine ⟨none, ?_⟩
   rw [List.getD_eq_getElem?_getD, List.getElem?_replicate, if_pos hj]
   rfl
theorem busNew_ok (ms : List Int) (hml : ms.length ≤ 6) (hm : ∀ m ∈ ms, 0 ≤ m ∧ m ≤ 8) (A : Option Addr) (c : Nat) (w : World) (hs : SlS (all w) 1 A ms.length (intCells ms)) :
  Calls Tryz.prog 35 #[.slice A ms.length c] w (fun y w' => (∃ v hs q, y = .returned v ∧ q.w = w' ∧ BusOk ms v hs q ∧ New w hs q) ∧ Below w.heap.size w w') := by
 refine XK.enter (vs := [.slice A ms.length c]) Tryz.func35 rfl Tryz.ntmps35 (by simp) ?_
 refine XK.seq ?_
 refine XK.region ?_
 refine kdo ?_
 refine kdo ?_
 refine XK.nilN ?_
 refine XK.seq ?_
 refine XK.seq ?_
 refine XK.region ?_
 refine kdo ?_
 refine kdo ?_
 refine kdo ?_
 refine XK.nilN ?_
 refine XK.if_ rfl (fun h => absurd h (by omega)) (fun _ => ?_)
 refine XK.skip ?_
 refine XK.norm ?_
 refine XK.cut (fun e R H => ∃ gr gw g3, e = [(4, .pointer (some ⟨g3, 0, none⟩)), (0, .slice A ms.length c)] ∧ R = [all w] ∧ H = [HP.blk g3 251 [.slice (some ⟨gr, 0, none⟩) ms.length ms.length, .slice (some ⟨gw, 0, none⟩) ms.length ms.length, .int .i64 0], HP.blk gr 3 (List.replicate ms.length (.int .i64 0)), HP.blk gw 349 (List.replicate ms.length (.slice none 0 0))]) ?_ ?_
 ·refine XK.draw 6 (by kernel_rfl) (by kernel_rfl) ?_
  refine XA.q 0 ?_
  refine XA.q 1 ?_
  refine XA.q 3 ?_
  refine XA.q 4 ?_
  refine XA.either 2 5 rfl rfl (by kernel_rfl) ?_ ?_
  ·refine xk_makeT (n := ms.length) 8 (el := 3) (z := .int .i64 0) (by kernel_rfl) (by kernel_rfl) rfl rfl rfl (by omega) (by omega) (by decide) fun gr => ?_
   refine XA.bk ?_
   refine XA.next 5 rfl (by kernel_rfl) ?_
   refine xk_makeT (n := ms.length) 24 (el := 349) (z := .slice none 0 0) (by kernel_rfl) (by kernel_rfl) rfl rfl rfl (by omega) (by omega) (by decide) fun gw => ?_
   refine XA.bk ?_
   refine XA.next 6 rfl (by kernel_rfl) ?_
   refine xk_buildS (zs := [.slice none 0 0, .slice none 0 0, .int .i64 0]) (L := [(0, 1), (1, 1), (2, 1)]) (zeroB_of (by kernel_rfl)) (by kernel_rfl) rfl (by simp [fillL, setN, Value.cells]; rfl) (by decide) ?_
   refine XA.bt ?_
   refine XA.next 7 rfl (by kernel_rfl) ?_
   refine xk_box rfl (by decide) fun g3 => ?_
   dsimp only [Value.cells]
   refine XA.bt ?_
   refine XA.next 8 rfl (by kernel_rfl) ?_
   refine kdo ?_
   refine XA.bt ?_
   refine XA.done (by kernel_rfl) ?_
   refine XK.norm ?_
   exact XK.weak [0, 2, 1] rfl (by decide) (by simp) (XK.envS [(4, .pointer (some ⟨g3, 0, none⟩)), (0, .slice A ms.length c)] (XK.meet ⟨gr, gw, g3, rfl, rfl, rfl⟩))
  ·refine xk_makeT (n := ms.length) 24 (el := 349) (z := .slice none 0 0) (by kernel_rfl) (by kernel_rfl) rfl rfl rfl (by omega) (by omega) (by decide) fun gw => ?_
   refine XA.bk ?_
   refine XA.next 2 rfl (by kernel_rfl) ?_
   refine xk_makeT (n := ms.length) 8 (el := 3) (z := .int .i64 0) (by kernel_rfl) (by kernel_rfl) rfl rfl rfl (by omega) (by omega) (by decide) fun gr => ?_
   refine XA.bk ?_
   refine XA.next 6 rfl (by kernel_rfl) ?_
   refine xk_buildS (zs := [.slice none 0 0, .slice none 0 0, .int .i64 0]) (L := [(0, 1), (1, 1), (2, 1)]) (zeroB_of (by kernel_rfl)) (by kernel_rfl) rfl (by simp [fillL, setN, Value.cells]; rfl) (by decide) ?_
   refine XA.bt ?_
   refine XA.next 7 rfl (by kernel_rfl) ?_
   refine xk_box rfl (by decide) fun g3 => ?_
   dsimp only [Value.cells]
   refine XA.bt ?_
   refine XA.next 8 rfl (by kernel_rfl) ?_
   refine kdo ?_
   refine XA.bt ?_
   refine XA.done (by kernel_rfl) ?_
   refine XK.norm ?_
   exact XK.weak [0, 1, 2] rfl (by decide) (by simp) (XK.envS [(4, .pointer (some ⟨g3, 0, none⟩)), (0, .slice A ms.length c)] (XK.meet ⟨gr, gw, g3, rfl, rfl, rfl⟩))
 rintro _ _ _ ⟨gr, gw, g3, rfl, rfl, rfl⟩
 refine XK.go ?_
 refine XK.envS [(20, .int .i64 0), (19, .int .i64 ms.length), (18, .slice A ms.length c), (4, .pointer (some ⟨g3, 0, none⟩))] ?_
 refine XK.loop (fun m e R H => ∃ i : Nat, i ≤ ms.length ∧ m = ms.length - i ∧ e = [(20, .int .i64 i), (19, .int .i64 ms.length), (18, .slice A ms.length c), (4, .pointer (some ⟨g3, 0, none⟩))] ∧ R = [all w] ∧ H = [HP.blk g3 251 [.slice (some ⟨gr, 0, none⟩) ms.length ms.length, .slice (some ⟨gw, 0, none⟩) ms.length ms.length, .int .i64 0], HP.blk gr 3 (intCells (midN ms (ms.map fun _ => 0) i)), HP.blk gw 349 (List.replicate ms.length (.slice none 0 0))]) ms.length ⟨0, by omega, rfl, rfl, rfl, by
  rw [midN_zero]
  have : List.replicate ms.length (Value.int .i64 0) = intCells (ms.map fun _ => 0) := by
   refine List.ext_getElem? fun j => ?_
   simp only [intCells, List.map_map, List.getElem?_replicate, List.getElem?_map]
   by_cases h : j < ms.length
   ·rw [if_pos h, List.getElem?_eq_getElem h]; rfl
   ·rw [if_neg h, List.getElem?_eq_none (by omega)]; rfl
  rw [this]⟩ fun m e R H hI => ?_
 obtain ⟨i, hi, rfl, rfl, rfl, rfl⟩ := hI
 have hml2 := midN_len (vs := ms) (old := ms.map fun _ => 0) (n := ms.length) rfl (by simp) hi
 refine XK.go ?_
 refine XK.if_ rfl (fun hlt => ?_) (fun hge => ?_)
 ·have hlt : i < ms.length := by omega
  obtain ⟨v, hv⟩ := get_some hlt
  have hvb := hm v (List.mem_of_getElem? hv)
  obtain ⟨b, off, hB, hz, hc⟩ := hs.2 (by omega)
  subst hB
  have hro : ROc w b (off + i) (.int .i64 v) := ⟨hz, hc i _ (by simp [intCells, hv])⟩
  have hcl : (intCells (midN ms (ms.map fun _ => 0) i)).length = ms.length := by simp [intCells, hml2]
  have hset : (intCells (midN ms (ms.map fun _ => 0) i)).set i (.int .i64 v) = intCells (midN ms (ms.map fun _ => 0) (i + 1)) := by
   rw [← midN_set (by simp) hv, intCells, intCells, List.map_set]
  refine XK.go ?_
  refine kd (dat i (off + i)) ?_
  refine XK.go ?_
  refine xk_split (t := 27) rfl (fun h => absurd h (by omega)) (fun _ => ?_)
  refine XK.go ?_
  refine XK.if_ rfl (fun h => absurd h (by omega)) (fun _ => ?_)
  refine XK.go ?_
  refine kd (dat i i) ?_
  refine kst rfl rfl ?_
  dsimp only [List.set]
  rw [hset]
  refine XK.go ?_
  refine XK.envS [(20, .int .i64 (i + 1 : Nat)), (19, .int .i64 ms.length), (18, .slice (some ⟨b, off, none⟩) ms.length c), (4, .pointer (some ⟨g3, 0, none⟩))] ?_
  exact XK.round (ms.length - (i + 1)) (by omega) ⟨i + 1, hlt, rfl, rfl, rfl, rfl⟩
 ·obtain rfl : i = ms.length := by omega
  rw [midN_all rfl (by simp)]
  refine XK.go ?_
  refine waitH_new ms rfl 2 rfl ?_
  dsimp only [List.set]
  refine XK.three ?_
  refine XK.still [] [] [0] (by simp) rfl (by decide) (by decide) fun q _ _ hfr => ?_
  exact XK.ret2 rfl rfl rfl fun w1 t => ⟨⟨_, _, ⟨w1, q.Z⟩, rfl, rfl, ⟨⟨g3, gr, gw⟩, rfl, rfl⟩, t.newR (by simp) (by simp) (hfr (by simp) (by simp))⟩, t.below (by simp)⟩
end
section
set_option maxHeartbeats 4000000
set_option maxRecDepth 20000
structure HwS where
 ck : List CkS
 dm : List DmS
 ln : List LnS
 dv : List (FlS × QtS)
 wt : List (Option Txn)
 posted : Int
def hw0 (s : Soc) : HwS := ⟨s.clocks.map ck0, s.domains.map fun _ => dm0, s.resets.map fun _ => ln0, s.devs.map fun d => (fl0 d, qt0), s.devs.map fun _ => none, 0⟩
structure HL where
 h : Nat
 T : TL
 G : GL
 R : RL
 B : BL
 A : Option Addr
 c : Nat
 ds : List (FL × Nat)
def dvC (d : Dev) (l : FL × Nat) : List Value := [.int .i64 d.clock, .int .i64 d.domain, .int .i64 d.reset, .int .u32 d.clamp, .pointer (some ⟨l.1.f, 0, none⟩), .pointer (some ⟨l.2, 0, none⟩)]
def dvRows (ds : List Dev) (ls : List (FL × Nat)) : List (List Value) := List.zipWith dvC ds ls
def dvH1 (d : Dev) (p : (FL × Nat) × (FlS × QtS)) : HP := HP.many [FileH p.1.1 d p.2.1, QtH p.1.2 p.2.2]
def dvHs (ds : List Dev) (ls : List (FL × Nat)) (xs : List (FlS × QtS)) : List HP := List.zipWith dvH1 ds (ls.zip xs)
def msF (s : Soc) : List Int := s.devs.map fun d => (d.regs.length : Int)
def hdC (L : HL) (n : Nat) : List Value := [.pointer (some ⟨L.T.t, 0, none⟩), .pointer (some ⟨L.G.t, 0, none⟩), .pointer (some ⟨L.R.t, 0, none⟩), .pointer (some ⟨L.B.b, 0, none⟩), .slice L.A n L.c]
def HardH (L : HL) (s : Soc) (x : HwS) : HP := HP.many [HP.blk L.h 118 (hdC L s.devs.length), TreeH L.T s x.ck, GridH L.G s x.dm, LinesH L.R s x.ln, BusH L.B (msF s) x.wt x.posted, HP.own 125 6 (.slice L.A s.devs.length L.c) s.devs.length (dvRows s.devs L.ds).flatten, HP.many (dvHs s.devs L.ds x.dv)]
def HardOk (s : Soc) (v : Value) (hs : List HP) (_ : Piece) : Prop := ∃ L : HL, v = .tuple #[.pointer (some ⟨L.h, 0, none⟩), .int .i64 0] ∧ hs = [HardH L s (hw0 s)] ∧ L.T.fa.length = s.clocks.length ∧ L.ds.length = s.devs.length
theorem msF_len (s : Soc) : (msF s).length = s.devs.length := by simp [msF]
theorem dvHs_snoc {ds : List Dev} {i : Nat} {d : Dev} (hd : ds[i]? = some d) {ls : List (FL × Nat)} (hl : ls.length = i) (l : FL × Nat) : dvHs (ds.take (i + 1)) (ls ++ [l]) ((ds.take (i + 1)).map fun d => (fl0 d, qt0)) = dvHs (ds.take i) ls ((ds.take i).map fun d => (fl0 d, qt0)) ++ [dvH1 d (l, (fl0 d, qt0))] := by
 have hlt : i < ds.length := hlt_of hd
 rw [List.take_succ, hd, Option.toList_some, List.map_append]
 unfold dvHs
 rw [List.zip_append (by simp; omega), List.zipWith_append (by simp; omega)]
 rfl
theorem dvRows_snoc {ds : List Dev} {i : Nat} {d : Dev} (hd : ds[i]? = some d) {ls : List (FL × Nat)} (hl : ls.length = i) (l : FL × Nat) : (dvRows (ds.take (i + 1)) (ls ++ [l])).flatten = (dvRows (ds.take i) ls).flatten ++ dvC d l := by
 have hlt : i < ds.length := hlt_of hd
 rw [List.take_succ, hd, Option.toList_some]
 unfold dvRows
 rw [List.zipWith_append (by simp; omega), List.flatten_append]
 simp
theorem XK.more {N : Frm} {w0 : World} {e : Env} {R : List Piece} {H : List HP} {K : Act → World → Prop} {p : HP} {ps : List HP} (h : XK N w0 K e R (HP.many (ps ++ [p]) :: H)) : XK N w0 K e R (HP.many ps :: p :: H) := fun a w hr st =>
 (XK.push (ps := ps) (p := p) h) a w hr (st.weak (fun _ h => h) (fun i => match i with
  | 0 => 1
  | 1 => 0
  | i + 2 => i + 2) (fun i j _ _ he => by
   match i, j with
   | 0, 0 => rfl
   | 0, 1 => simp at he
   | 0, j + 2 => simp at he
   | 1, 0 => simp at he
   | 1, 1 => rfl
   | 1, j + 2 => simp at he
   | i + 2, 0 => simp at he
   | i + 2, 1 => simp at he
   | i + 2, j + 2 => simpa using he) (fun i p hi => by
   match i, hi with
   | 0, hi => simpa using hi
   | 1, hi => simpa using hi
   | i + 2, hi => simpa using hi))
theorem XK.nilMany {N : Frm} {w0 : World} {e : Env} {R : List Piece} {H : List HP} {K : Act → World → Prop} (h : XK N w0 K e R (HP.many [] :: H)) : XK N w0 K e R H := XK.chunk0 (p := HP.many []) (fun w => ⟨fun _ _ => False, fun i p hp => by simp at hp, fun _ _ h => h, fun _ _ _ _ h => h.elim⟩) h
theorem hardNew_ok (s : Soc) (hH : s.okH) (A1 A2 A3 A4 : Option Addr) (n1 k1 n2 k2 n3 k3 n4 k4 : Nat) (w : World) (hW : SocW w s A1 n1 A2 n2 A3 n3 A4 n4) :
  Calls Tryz.prog 15 #[.agg #[.slice A1 n1 k1, .slice A2 n2 k2, .slice A3 n3 k3, .slice A4 n4 k4]] w (fun y w' => (∃ v hs q, y = .returned v ∧ q.w = w' ∧ HardOk s v hs q ∧ New w hs q) ∧ Below w.heap.size w w') := by
 have hnv := hH.t.nv
 obtain ⟨rv, hrv, hn4, hsv⟩ := hW.dev
 obtain ⟨da, hdl, rfl, hda⟩ := dev_rows hrv
 subst hn4
 refine XK.enter (vs := [.agg #[.slice A1 n1 k1, .slice A2 n2 k2, .slice A3 n3 k3, .slice A4 s.devs.length k4]]) Tryz.func15 rfl Tryz.ntmps15 (by simp) ?_
 refine XK.go ?_
 refine xk_box rfl (by decide) fun g1 => ?_
 dsimp only [Value.cells]
 refine XK.go ?_
 refine kcall (fun w1 t => checkS_call s A1 A2 A3 A4 n1 k1 n2 k2 n3 k3 _ k4 w1 (hW.le (t.started (by simp))) hH.t.chk) ?_
 refine XK.go ?_
 refine xk_callN (f := 29) (fi := []) (ca := []) (by kernel_rfl) rfl rfl (by decide) (TreeOk s) (fun w1 t => clkNew_ok s hH A1 A2 A3 A4 n1 k1 n2 k2 n3 k3 _ k4 w1 (hW.le (t.started (by simp)))) ?_
 rintro _ _ q1 ⟨LT, rfl, rfl, hfa⟩ _
 dsimp only [List.cons_append, List.nil_append]
 refine XK.go ?_
 refine xk_callN (f := 30) (fi := []) (ca := []) (by kernel_rfl) rfl rfl (by decide) (GridOk s) (fun w1 t => powNew_ok s hH A1 A2 A3 A4 n1 k1 n2 k2 n3 k3 _ k4 w1 (hW.le (t.started (by simp)))) ?_
 rintro _ _ q2 ⟨LG, rfl, rfl⟩ _
 dsimp only [List.cons_append, List.nil_append]
 refine XK.go ?_
 refine xk_callN (f := 31) (fi := []) (ca := []) (by kernel_rfl) rfl rfl (by decide) (LinesOk s) (fun w1 t => rstNew_ok s hH A1 A2 A3 A4 n1 k1 n2 k2 n3 k3 _ k4 w1 (hW.le (t.started (by simp)))) ?_
 rintro _ _ q3 ⟨LR, rfl, rfl⟩ _
 dsimp only [List.cons_append, List.nil_append]
 refine XK.go ?_
 refine xk_buildS (zs := [.pointer none, .pointer none, .pointer none, .pointer none, .slice none 0 0]) (L := [(0, 1), (1, 1), (2, 1), (3, 1), (4, 1)]) (zeroB_of (by kernel_rfl)) (by kernel_rfl) rfl (by simp [fillL, setN, Value.cells]; rfl) (by decide) ?_
 refine xk_box rfl (by decide) fun g2 => ?_
 dsimp only [Value.cells]
 refine XK.go ?_
 refine xk_makeT (n := s.devs.length) 8 (el := 3) (z := .int .i64 0) (by kernel_rfl) (by kernel_rfl) rfl rfl rfl (by omega) (by omega) (by decide) fun gm => ?_
 refine XK.go ?_
 refine XK.nilrow 125 6 ?_
 refine XK.nilMany ?_
 refine XK.weak [0, 1, 2, 3, 4, 5, 6] rfl (by decide) (R' := [all w]) (by simp) ?_
 refine XK.envS [(56, .int .i64 0), (55, .int .i64 s.devs.length), (54, .slice A4 s.devs.length k4), (10, .slice (some ⟨gm, 0, none⟩) s.devs.length s.devs.length), (9, .pointer (some ⟨g2, 0, none⟩))] ?_
 refine XK.loop (fun m e R H => ∃ (i : Nat) (A : Option Addr) (c : Nat) (ls : List (FL × Nat)), i ≤ s.devs.length ∧ ls.length = i ∧ m = s.devs.length - i ∧ e = [(56, .int .i64 i), (55, .int .i64 s.devs.length), (54, .slice A4 s.devs.length k4), (10, .slice (some ⟨gm, 0, none⟩) s.devs.length s.devs.length), (9, .pointer (some ⟨g2, 0, none⟩))] ∧ R = [all w] ∧ H = [HP.many (dvHs (s.devs.take i) ls ((s.devs.take i).map fun d => (fl0 d, qt0))), HP.own 125 6 (.slice A i c) i (dvRows (s.devs.take i) ls).flatten, HP.blk gm 3 (intCells (midN (msF s) ((msF s).map fun _ => 0) i)), HP.blk g2 118 [.pointer (some ⟨LT.t, 0, none⟩), .pointer (some ⟨LG.t, 0, none⟩), .pointer (some ⟨LR.t, 0, none⟩), .pointer none, .slice A i c], LinesH LR s (hw0 s).ln, GridH LG s (hw0 s).dm, TreeH LT s (hw0 s).ck]) s.devs.length ⟨0, none, 0, [], by omega, rfl, rfl, rfl, rfl, ?_⟩ fun m e R H hI => ?_
 ·have : List.replicate s.devs.length (Value.int .i64 0) = intCells (midN (msF s) ((msF s).map fun _ => 0) 0) := by
   rw [midN_zero]
   refine List.ext_getElem? fun j => ?_
   simp only [intCells, msF, List.map_map, List.getElem?_replicate, List.getElem?_map]
   by_cases h : j < s.devs.length
   ·rw [if_pos h, List.getElem?_eq_getElem h]; rfl
   ·rw [if_neg h, List.getElem?_eq_none (by omega)]; rfl
  rw [this]
  rfl
 obtain ⟨i, A, c, ls, hi, hll, rfl, rfl, rfl, rfl⟩ := hI
 have hml := msF_len s
 have hml2 := midN_len (vs := msF s) (old := (msF s).map fun _ => 0) (n := s.devs.length) hml (by simp [msF]) hi
 refine XK.go ?_
 refine XK.if_ rfl (fun hlt => ?_) (fun hge => ?_)
 ·have hlt : i < s.devs.length := by omega
  obtain ⟨d, hd⟩ := get_some hlt
  obtain ⟨⟨a1, a2⟩, ha⟩ := get_some (l := da) (i := i) (by omega)
  obtain ⟨hregs, hneeds⟩ := hda i d _ hd ha
  have hfit := hH.t.devs i d hd
  obtain ⟨b, off, hB, hro⟩ := SlS.row hsv (zw_len (f := devC) (es := s.devs) (bs := da) (sz := 6) hdl (fun _ _ => rfl)).2 (zw_get (f := devC) hd ha) hlt
  subst hB
  refine XK.go ?_
  refine kd (dat i (off + i * 6)) ?_
  refine XK.go ?_
  refine xk_alloc (cs := [.int .i64 0, .int .i64 0, .int .i64 0, .int .u32 0, .slice none 0 0, .slice none 0 0]) (zeroB_of (by kernel_rfl)) (by decide) fun g3 => ?_
  have hmi : (msF s)[i]? = some (d.regs.length : Int) := by rw [msF, List.getElem?_map, hd]; rfl
  have hcl : (intCells (midN (msF s) ((msF s).map fun _ => 0) i)).length = s.devs.length := by simp [intCells, hml2]
  have hset : (intCells (midN (msF s) ((msF s).map fun _ => 0) i)).set i (.int .i64 d.regs.length) = intCells (midN (msF s) ((msF s).map fun _ => 0) (i + 1)) := by
   rw [← midN_set (by simp) hmi, intCells, intCells, List.map_set]
  refine XK.go ?_
  refine xk_callN (f := 32) (fi := []) (ca := []) (by kernel_rfl) rfl rfl (by decide) (FileOk d) (fun w1 t => regsNew_ok d (by have := hfit.2.2.2.2.2.2.2.2.1; omega) (fun r hr => by have := hfit.2.2.2.2.2.2.2.2.2.1 r hr; omega) a1.1 a1.2 w1 (SlS.le hregs (t.le (by simp)))) ?_
  rintro _ _ q1 ⟨LF, rfl, rfl⟩ _
  dsimp only [List.cons_append, List.nil_append]
  refine XK.go ?_
  refine kcall (fun w1 t => regsMany_any LF d (fl0 d) w1 (t.fileR 0 rfl)) ?_
  refine XK.go ?_
  refine kd (dat i i) ?_
  refine kst rfl rfl ?_
  dsimp only [List.set]
  rw [hset]
  refine XK.go ?_
  refine XK.drawB [2, 3, 4, 5, 6, 7, 8, 9, 10, 11, 12] ?_
  refine XB.mv 0 ?_
  refine XB.mv 1 ?_
  refine XB.mv 13 ?_
  refine XB.q 2 ?_
  refine XB.q 3 ?_
  refine XB.q 4 ?_
  refine XB.q 5 ?_
  refine XB.q 6 ?_
  refine XB.q 7 ?_
  refine XB.q 8 ?_
  refine XB.q 9 ?_
  refine XB.q 10 ?_
  refine XB.q 11 ?_
  refine XB.q 12 ?_
  refine XB.next 14 rfl (by kernel_rfl) ?_
  refine xk_callN (f := 34) (fi := []) (ca := []) (by kernel_rfl) rfl rfl (by decide) (fun v hs _ => ∃ g, v = .pointer (some ⟨g, 0, none⟩) ∧ hs = [HP.blk g 248 [.int .i64 0, .int .i64 0]]) (fun w1 t => quietNew_ok w1) ?_
  rintro _ _ q2 ⟨gq, rfl, rfl⟩ _
  dsimp only [List.cons_append, List.nil_append]
  refine XB.bk ?_
  refine XB.next 15 rfl (by kernel_rfl) ?_
  refine xk_buildS (zs := [.int .i64 0, .int .i64 0, .int .i64 0, .int .u32 0, .pointer none, .pointer none]) (L := [(0, 1), (1, 1), (2, 1), (3, 1), (4, 1), (5, 1)]) (zeroB_of (by kernel_rfl)) (by kernel_rfl) rfl (by simp [fillL, setN, Value.cells]; rfl) (by decide) ?_
  refine XB.bk ?_
  refine XB.next 16 rfl (by kernel_rfl) ?_
  refine xk_slice (el := 125) (sz := 6) (zs := [.int .i64 0, .int .i64 0, .int .i64 0, .int .u32 0, .pointer none, .pointer none]) (by kernel_rfl) (zeroB_of (by kernel_rfl)) (by kernel_rfl) rfl (by decide) (by decide) rfl (by simp [fillL, setN, Value.cells, List.range_succ, List.set]; rfl) (by decide) fun g4 => ?_
  refine XB.bk ?_ (hS := fun _ h => h.tail.tailR.tail)
  refine XB.next 17 rfl (by kernel_rfl) ?_
  refine xk_appendT 5 6 48 1 (n' := i + 1) (el := 125) (by kernel_rfl) (by kernel_rfl) (by decide) rfl rfl rfl (sl_blk 0 rfl rfl) (by simp [Value.oneCell']) rfl (by omega) (by omega) (by decide) fun An cn => ?_
  dsimp only [List.set]
  refine XB.bt ?_
  refine XB.next 18 rfl (by kernel_rfl) ?_
  refine kdo ?_
  refine XB.bt ?_
  refine XB.next 19 rfl (by kernel_rfl) ?_
  refine kdo ?_
  refine XB.bt ?_
  refine XB.next 20 rfl (by kernel_rfl) ?_
  refine kst rfl rfl ?_
  dsimp only [List.set]
  refine XB.bt ?_
  refine XB.done (by kernel_rfl) ?_
  refine XK.go ?_
  refine XK.weak [2, 1, 4, 5, 6, 7, 8, 9, 10] rfl (by decide) (R' := [all w]) (by simp) ?_
  refine XK.pair ?_
  refine XK.push ?_
  refine XK.envS [(56, .int .i64 (i + 1 : Nat)), (55, .int .i64 s.devs.length), (54, .slice (some ⟨b, off, none⟩) s.devs.length k4), (10, .slice (some ⟨gm, 0, none⟩) s.devs.length s.devs.length), (9, .pointer (some ⟨g2, 0, none⟩))] ?_
  exact XK.round (s.devs.length - (i + 1)) (by omega) ⟨i + 1, An, cn, ls ++ [(LF, gq)], hlt, by simp; omega, rfl, rfl, rfl, by rw [dvHs_snoc hd hll, dvRows_snoc hd hll]; rfl⟩
 ·obtain rfl : i = s.devs.length := by omega
  rw [midN_all hml (by simp [msF])]
  rw [List.take_length]
  refine XK.go ?_
  refine xk_callN (f := 35) (fi := []) (ca := []) (by kernel_rfl) rfl rfl (by decide) (BusOk (msF s)) (fun w1 t => by
   have := busNew_ok (msF s) (by omega) (fun m hm => by
    obtain ⟨d, hd, rfl⟩ := List.mem_map.1 hm
    obtain ⟨j, hj⟩ := List.getElem?_of_mem hd
    have := (hH.t.devs j d hj).2.2.2.2.2.2.2.2.1
    omega) (some ⟨gm, 0, none⟩) s.devs.length w1
   rw [hml] at this
   exact this (t.slS (i := 2) rfl (by simp [intCells, hml]))) ?_
  rintro _ _ q1 ⟨LB, rfl, rfl⟩ _
  dsimp only [List.cons_append, List.nil_append]
  refine XK.go ?_
  refine XK.weak [4, 7, 6, 5, 0, 2, 1] rfl (by decide) (R' := [all w]) (by simp) ?_
  refine XK.pair ?_
  refine XK.more ?_
  refine XK.more ?_
  refine XK.more ?_
  refine XK.more ?_
  refine XK.more ?_
  dsimp only [List.cons_append, List.nil_append]
  refine XK.still [] [] [0] (by simp) rfl (by decide) (by decide) fun q _ _ hfr => ?_
  exact XK.ret2 rfl rfl rfl fun w1 t => ⟨⟨_, _, ⟨w1, q.Z⟩, rfl, rfl, ⟨⟨g2, LT, LG, LR, LB, A, c, ls⟩, rfl, by simp [HardH, hdC, hw0, msF, Function.comp_def], hfa, hll⟩, t.newR (by simp) (by simp) (hfr (by simp) (by simp))⟩, t.below (by simp)⟩
end
section
set_option maxHeartbeats 4000000
set_option maxRecDepth 20000
structure HwOk (s : Soc) (x : HwS) : Prop where
 ck : CkOk s x.ck
 dm : DmOk s x.dm
 ln : LnOk s x.ln
 dv : x.dv.length = s.devs.length
 each : ∀ (i : Nat) (d : Dev) (p : FlS × QtS), s.devs[i]? = some d → x.dv[i]? = some p → FlOk d p.1 ∧ QtOk p.2
 wt : x.wt.length = s.devs.length
structure HLOk (L : HL) (s : Soc) : Prop where
 fa : L.T.fa.length = s.clocks.length
 ds : L.ds.length = s.devs.length
structure HardR (w : World) (L : HL) (s : Soc) (x : HwS) : Prop where
 r0 : ROn w L.h 0 (hdC L s.devs.length)
 tree : TreeR w L.T s x.ck
 grid : GridR w L.G s x.dm
 lines : LinesR w L.R s x.ln
 bus : BusR w L.B (msF s) x.wt x.posted
 rows : SlS (all w) 6 L.A s.devs.length (dvRows s.devs L.ds).flatten
 each : ∀ (i : Nat) (d : Dev) (l : FL × Nat) (p : FlS × QtS), s.devs[i]? = some d → L.ds[i]? = some l → x.dv[i]? = some p → FileR w l.1 d p.1 ∧ ROn w l.2 0 (QtC p.2)
theorem HardR.below {w w' : World} {L : HL} {s : Soc} {x : HwS} (h : HardR w L s x) (hb : Below w.heap.size w w') : HardR w' L s x :=
 ⟨h.r0.below hb, h.tree.below hb, RowR.below h.grid hb, h.lines.below hb, h.bus.below hb, h.rows.le (all_le hb), fun i d l p h1 h2 h3 => ⟨(h.each i d l p h1 h2 h3).1.below hb, (h.each i d l p h1 h2 h3).2.below hb⟩⟩
theorem HardH.reads {L : HL} {s : Soc} {x : HwS} {F : Nat → Prop} {w : World} (h : (HardH L s x).sat F w) (hF : ∀ b, F b → b < w.heap.size) (hL : HLOk L s) (hok : HwOk s x) : HardR w L s x := by
 obtain ⟨G, g1, g2, _⟩ := h
 have hl : ∀ i b, G i b → b < w.heap.size := fun i b hb => hF b (g2 i b hb)
 obtain ⟨A', c', he, hs⟩ := SlS.of_own (Y := fun b => b < w.heap.size) (g1 5 _ rfl) (hl 5)
 injection he with he
 subst he
 refine ⟨blk_ron (g1 0 _ rfl).2, TreeH.reads (g1 1 _ rfl) (hl 1) hL.fa hok.ck, RowH.reads (g1 2 _ rfl) (hl 2), LinesH.reads (g1 3 _ rfl), BusH.reads (g1 4 _ rfl), hs, fun i d l p h1 h2 h3 => ?_⟩
 obtain ⟨G', k1, k2, _⟩ := g1 6 _ rfl
 have hz : (dvHs s.devs L.ds x.dv)[i]? = some (dvH1 d (l, p)) := by
  have hq : (L.ds.zip x.dv)[i]? = some (l, p) := List.getElem?_zip_eq_some.2 ⟨h2, h3⟩
  rw [dvHs, List.getElem?_zipWith, h1, hq]
 have hj : ∀ b, G' i b → b < w.heap.size := fun b hb => hl 6 b (k2 i b hb)
 obtain ⟨G2, m1, m2, _⟩ := k1 i _ hz
 exact ⟨FileH.reads (m1 0 _ rfl) (fun b hb => hj b (m2 0 b hb)), blk_ron (m1 1 _ rfl).2⟩
section
variable {N : Frm} {w0 w : World} {e : Env} {R : List Piece} {H : List HP} {K : Act → World → Prop} {L : HL} {s : Soc} {x : HwS}
theorem St.hardR (t : St w0 R H w) (i : Nat) (hi : H[i]? = some (HardH L s x)) (hL : HLOk L s) (hok : HwOk s x) : HardR w L s x := by
 obtain ⟨F, h1, h2, _⟩ := t.chunk hi
 exact HardH.reads h1 h2 hL hok
end
section
variable (L : HL) (s : Soc) (x : HwS) (w : World)
end
end
section
theorem dvRows_get {ds : List Dev} {ls : List (FL × Nat)} {i : Nat} {d : Dev} {l : FL × Nat} (hd : ds[i]? = some d) (hl : ls[i]? = some l) : (dvRows ds ls)[i]? = some (dvC d l) := by
 rw [dvRows, List.getElem?_zipWith, hd, hl]
theorem dvRows_len {ds : List Dev} {ls : List (FL × Nat)} : ∀ r ∈ dvRows ds ls, r.length = 6 := fun r hr => by
 obtain ⟨i, hi⟩ := List.getElem?_of_mem hr
 rw [dvRows, List.getElem?_zipWith] at hi
 split at hi
 ·cases hi; rfl
 ·cases hi
section
variable {N : Frm} {w0 w : World} {e : Env} {R : List Piece} {H : List HP} {K : Act → World → Prop} {L : HL} {s : Soc} {x : HwS}
theorem XK.rows (j : Nat) (hj : H[j]? = some (HardH L s x)) (hLo : HLOk L s) (hok : HwOk s x) (hn : 0 < s.devs.length) (k : ∀ b off, L.A = some ⟨b, off, none⟩ → XK N w0 K e R H) : XK N w0 K e R H := fun a w hr st => by
 obtain ⟨b, off, hA, _⟩ := (st.hardR j hj hLo hok).rows.2 hn
 exact k b off hA a w hr st
theorem RdN.dev (j : Nat) {i b off o : Nat} {d : Dev} {l : FL × Nat} (hj : H[j]? = some (HardH L s x)) (hLo : HLOk L s) (hok : HwOk s x) (hA : L.A = some ⟨b, off, none⟩) (hd : s.devs[i]? = some d) (hl : L.ds[i]? = some l) (ho : o = off + i * 6) : RdN w0 R H b o (dvC d l) := .of fun k v hv w st => by
 obtain ⟨b', off', hA', hr⟩ := SlS.row (st.hardR j hj hLo hok).rows (rows := dvRows s.devs L.ds) (fun r hr => dvRows_len r hr) (dvRows_get hd hl) (List.getElem?_eq_some_iff.1 hd).1
 rw [hA] at hA'
 cases hA'
 subst ho
 exact (hr.2 k v hv)
end
end
section
section
variable {P : Program} {ops : Array Oper} {Q : Exit → Act → World → Prop} {N : Frm} {w0 : World} {e e' : Env} {R R' : List Piece} {H H' : List HP} {rest : List Oper} {d : Nat} {ty : TypeId} {pos : String} {aft : Array Edge}
def isIface (P : Program) (t : TypeId) : Bool := match P.underlying t with
 | some (.interface _) => true
 | _ => false
def noIface (P : Program) (t : TypeId) : Bool := match P.underlying t with
 | some (.interface _) => false
 | some _ => true
 | none => false
theorem does_mkI {x : Operand} {t : TypeId} {v : Value} (hx : e.ev x = some v) (ht : noIface P t = true := by kernel_rfl) : Does P N w0 e R H ⟨some d, .makeInterface t x, ty, pos, aft, none⟩ (.iface t v) := does_of fun a w hr => by
 unfold noIface at ht
 cases hu : P.underlying t with
 | none => rw [hu] at ht; cases ht
 | some u => cases u <;> first | (rw [hu] at ht; cases ht; done) | simp [execOp, hr.ev hx, Instr.makeInterface, run_underlying hu]
theorem run_eqI (w : World) (n : Nat) (t : TypeId) {f : Array (String × TypeId)} (hu : P.underlying t = some (.interface f)) : (Op.equalIn (n + 1) t .nilIface .nilIface).run P w = .ok true w := by simp [Op.equalIn, run_underlying hu]
theorem run_eqV (w : World) (n : Nat) (t : TypeId) {f : Array (String × TypeId)} (u : TypeId) (v : Value) (hu : P.underlying t = some (.interface f)) : (Op.equalIn (n + 1) t (.iface u v) .nilIface).run P w = .ok false w := by simp [Op.equalIn, run_underlying hu]
theorem does_iN {x : Operand} {t u : TypeId} {v : Value} {b : Bool} (hx : e.ev x = some v) (hv : (v = .nilIface ∧ b = true) ∨ (∃ u y, v = .iface u y) ∧ b = false) (ht : isIface P t = true := by kernel_rfl) : Does P N w0 e R H ⟨some d, .binOp .eql t x (.const .nilIface) u, ty, pos, aft, none⟩ (.bool b) := does_of fun a w hr => by
 have h2 := hr.ev (show e.ev (.const .nilIface) = some .nilIface from rfl)
 unfold isIface at ht
 split at ht
 ·rename_i f1 hu
  rcases hv with ⟨rfl, rfl⟩ | ⟨⟨u, y, rfl⟩, rfl⟩
  ·have h4 : (Op.equal t .nilIface .nilIface).run P w = .ok true w := run_eqI w 9999 t hu
   simp [execOp, hr.ev hx, h2, eqGuard, binOp, h4]
  ·have h4 : (Op.equal t (.iface u y) .nilIface).run P w = .ok false w := run_eqV w 9999 t u y hu
   simp [execOp, hr.ev hx, h2, eqGuard, binOp, h4]
 ·cases ht
theorem xk_invM (i : Nat) {dst : Option Nat} {e' : Env} {f : FuncId} {x : Operand} {name : String} {args : List Operand} {vs : List Value} {tys : Array TypeId} {tx : TypeId} {u u' : Value} {p : HP} {v : Value} (q : HP) (hf : callB P f = true) (hx : e.ev x = some (.iface tx u)) (hm : ∀ w, (method (P.types.size + Made.depth) tx u name).run P w = .ok (f, u') w) (ha : e.evs args = some vs) (hi : H[i]? = some p)
  (hd : match dst with | some d => d < N.n ∧ e' = (d, v) :: e | none => e' = e)
  (hc : ∀ w F, St w0 R H w → p.sat F w → (∀ b, F b → b < w.heap.size) → (∀ q ∈ R, q.Le ⟨w, fun b => b < w.heap.size ∧ ¬ F b⟩) → Calls P f (u' :: vs).toArray w fun y w' => y = .returned v ∧ ∃ F', q.sat F' w' ∧ Turns w w' F F')
  (k : XK N w0 (wpList P ops Q rest) e' R (H.set i q)) : XK N w0 (wpList P ops Q (⟨dst, .call { callee := .invoke x name, args := args.toArray, argTypes := tys }, ty, pos, aft, none⟩ :: rest)) e R H := fun a w hr st => wpList_plain rfl fun K hK => by
 unfold callB at hf
 cases hq : P.funcs[f]? with
 | none => simp [hq] at hf
 | some fn =>
  simp [hq] at hf
  obtain ⟨hf1, hf2⟩ := hf
  have hrun : (execOp a.eval (⟨dst, .call { callee := .invoke x name, args := args.toArray, argTypes := tys }, ty, pos, aft, none⟩ : Oper)).run P w = .ok (.enter f (u' :: vs).toArray) w := by
   cases hb : fn.body with
   | none => simp [hb] at hf2
   | some c =>
    have h0 : (#[Value.iface tx u] ++ (args.toArray.map a.eval))[0]? = some (.iface tx u) := by simp [Array.getElem?_append]
    simp [execOp, resolve, hr.ev hx, invoke, callMethod, hm, callFunc, hq, hf1, hb, hr.evs ha]
  obtain ⟨Z, F, hz, hrr, hs, hff, hdd⟩ := st.ex
  unfold Oper.wp
  rw [hrun]
  refine (hc w (F i) st (hs i p hi) (fun b hb => (hff i b hb).2) (fun q hq b hb => ⟨⟨hz b (hrr q hq b hb).1, fun hfb => (hff i b hfb).1 (hrr q hq b hb).1⟩, (hrr q hq b hb).2⟩)).mono fun y w' ⟨hy, F', hq', ht⟩ => ?_
  subst hy
  have st' : St w0 R (H.set i q) w' := by
   have hlt : i < H.length := by
    rcases Nat.lt_or_ge i H.length with h | h
    ·exact h
    ·rw [List.getElem?_eq_none h] at hi; cases hi
   refine ⟨ht.os.trans st.os, ht.tape.trans st.tape, ht.output.trans st.output, Nat.le_trans st.size ht.size, Z, fun j => if j = i then F' else F j, fun b h => Nat.lt_of_lt_of_le (hz b h) ht.size, fun p hp b h => ?_, fun j r hj => ?_, fun j b h => ?_, fun j k b hjk h => ?_⟩
   ·exact ⟨(hrr p hp b h).1, (ht.old b (hz b (hrr p hp b h).1) (fun hfb => (hff i b hfb).1 (hrr p hp b h).1)).trans (hrr p hp b h).2⟩
   ·rw [List.getElem?_set] at hj
    split at hj
    ·rename_i e; subst e
     first | (rw [if_pos hlt] at hj; cases hj) | cases hj
     simpa using hq'
    ·rename_i e
     simp only [if_neg (Ne.symm e)]
     exact r.loc _ _ _ (hs j r hj) (fun b hb => ht.old b (hff j b hb).2 (hdd j i b (Ne.symm e) hb))
   ·dsimp only at h
    split at h
    ·refine ⟨fun hzb => ?_, (ht.new b h).2⟩
     rcases (ht.new b h).1 with h | h
     ·exact (hff i b h).1 hzb
     ·have := hz b hzb; omega
    ·exact ⟨(hff j b h).1, Nat.lt_of_lt_of_le (hff j b h).2 ht.size⟩
   ·dsimp only at h ⊢
    split at h <;> split
    ·rename_i h1 h2; omega
    ·rename_i e1 e2
     intro hk
     rcases (ht.new b h).1 with h | h
     ·exact hdd i k b (by omega) h hk
     ·have := (hff k b hk).2; omega
    ·rename_i e1 e2
     intro hk
     rcases (ht.new b hk).1 with hk | hk
     ·exact hdd j i b (by omega) h hk
     ·have := (hff j b h).2; omega
    ·exact hdd j k b hjk h
  cases dst with
  | none => dsimp only at hd; subst hd; exact hK _ _ (k _ _ hr st')
  | some d => dsimp only at hd; obtain ⟨hd, rfl⟩ := hd; exact hK _ _ (k _ _ (hr.put hd v) st')
end
end
section
set_option maxHeartbeats 4000000
set_option maxRecDepth 20000
structure Cn where
 l : List (Int × Int)
 asl : Bool
def CntH (gc gm : Nat) (v : Value) (c : Cn) : HP := HP.many [HP.blk gc 188 [v, .map (some gm), .bool c.asl], HP.map gm (cntL c.l)]
section
variable {N : Frm} {w0 : World} {e : Env} {R : List Piece} {H : List HP} {Q : Exit → Act → World → Prop} {ops : Array Oper} {rest : List Oper} {d : Nat} {ty : TypeId} {pos : String} {aft : Array Edge}
end
section
variable (gc gm n k : Nat) (A : Option Addr) (c : Cn) (w : World) (F : Nat → Prop)
end
end
section
set_option maxHeartbeats 4000000
set_option maxRecDepth 20000
structure FmL where
 a1 : AC
 a2 : AC
 a3 : AC
 a4 : AC
 x1 : AC
 x2 : AC
 x3 : AC
 y1 : AC
 y2 : AC
 y3 : AC
 b0 : AC
 b1 : AC
structure FmS where
 x : Wsh
 y : Wsh
 h0 : Int
 h1 : Int
 w0 : List Int
 w1 : List Int
 last : Int
 at_ : Int
 kind : Int
 id : Int
def fm0 (s : Soc) : FmS := ⟨zeroW s, zeroW s, 0, 0, [], [], 1, -1, 0, 0⟩
def slV (a : AC) (n : Nat) : Value := .slice a.1 n a.2
def fmC (h : Nat) (L : FmL) (s : Soc) (z : FmS) : List Value := [.pointer (some ⟨h, 0, none⟩), .slice L.a1.1 s.clocks.length L.a1.2, .slice L.a2.1 s.domains.length L.a2.2, .slice L.a3.1 s.resets.length L.a3.2, .slice L.a4.1 s.devs.length L.a4.2,
 .slice L.x1.1 z.x.d.length L.x1.2, .slice L.x2.1 z.x.c.length L.x2.2, .slice L.x3.1 z.x.l.length L.x3.2, .slice L.y1.1 z.y.d.length L.y1.2, .slice L.y2.1 z.y.c.length L.y2.2, .slice L.y3.1 z.y.l.length L.y3.2,
 .int .i64 z.h0, .slice L.b0.1 z.w0.length L.b0.2, .int .i64 z.h1, .slice L.b1.1 z.w1.length L.b1.2, .int .i64 z.last, .int .i64 z.at_, .int .u8 z.kind, .int .i64 z.id]
def SoP (L : FmL) (s : Soc) (p : Piece) : Prop := SocP p s L.a1.1 s.clocks.length L.a2.1 s.domains.length L.a3.1 s.resets.length L.a4.1 s.devs.length
theorem SoP.le {L : FmL} {s : Soc} (p q : Piece) (hl : p.Le q) (h : SoP L s p) : SoP L s q := SocP.le h hl
def StP (L : FmL) (x y : Wsh) (p : Piece) : Prop := SlS p 1 L.x1.1 x.d.length (boolCells x.d) ∧ SlS p 1 L.x2.1 x.c.length (boolCells x.c) ∧ SlS p 1 L.x3.1 x.l.length (boolCells x.l) ∧ SlS p 1 L.y1.1 y.d.length (boolCells y.d) ∧ SlS p 1 L.y2.1 y.c.length (boolCells y.c) ∧ SlS p 1 L.y3.1 y.l.length (boolCells y.l)
theorem StP.le {L : FmL} {x y : Wsh} (p q : Piece) (hl : p.Le q) (h : StP L x y p) : StP L x y q := ⟨h.1.le hl, h.2.1.le hl, h.2.2.1.le hl, h.2.2.2.1.le hl, h.2.2.2.2.1.le hl, h.2.2.2.2.2.le hl⟩
def BxP (a : AC) (l : List Int) (p : Piece) : Prop := SlS p 1 a.1 l.length (u32Cells l)
theorem BxP.le {a : AC} {l : List Int} (p q : Piece) (hl : p.Le q) (h : BxP a l p) : BxP a l q := SlS.le h hl
theorem StR.P {q : Piece} {x y : Wsh} {v : Value} (h : StR q x y v) : ∃ x1 x2 x3 y1 y2 y3 : AC, v = .agg #[slV x1 x.d.length, slV x2 x.c.length, slV x3 x.l.length, slV y1 y.d.length, slV y2 y.c.length, slV y3 y.l.length] ∧ ∀ a1 a2 a3 a4 b0 b1 : AC, StP ⟨a1, a2, a3, a4, x1, x2, x3, y1, y2, y3, b0, b1⟩ x y q := by
 obtain ⟨A1, k1, A2, k2, A3, k3, B1, m1, B2, m2, B3, m3, e, a1, a2, a3, b1, b2, b3⟩ := h
 exact ⟨(A1, k1), (A2, k2), (A3, k3), (B1, m1), (B2, m2), (B3, m3), e, fun _ _ _ _ _ _ => ⟨a1, a2, a3, b1, b2, b3⟩⟩
def FirmH (f h : Nat) (L : FmL) (s : Soc) (z : FmS) : HP := HP.many [HP.blk f 139 (fmC h L s z), HP.pic (SoP L s) (SoP.le (L := L) (s := s)), HP.pic (StP L z.x z.y) (StP.le (L := L) (x := z.x) (y := z.y)), HP.pic (BxP L.b0 z.w0) (BxP.le (a := L.b0) (l := z.w0)), HP.pic (BxP L.b1 z.w1) (BxP.le (a := L.b1) (l := z.w1))]
def FirmX (f h : Nat) (s : Soc) (z : FmS) : HP := HP.ex fun L : FmL => FirmH f h L s z
structure FirmR (w : World) (f h : Nat) (L : FmL) (s : Soc) (z : FmS) : Prop where
 r0 : ROn w f 0 (fmC h L s z)
 so : SoP L s (all w)
 st : StP L z.x z.y (all w)
 b0 : BxP L.b0 z.w0 (all w)
 b1 : BxP L.b1 z.w1 (all w)
theorem FirmR.below {w w' : World} {f h : Nat} {L : FmL} {s : Soc} {z : FmS} (k : FirmR w f h L s z) (hb : Below w.heap.size w w') : FirmR w' f h L s z :=
 ⟨k.r0.below hb, k.so.le _ _ (all_le hb), k.st.le _ _ (all_le hb), k.b0.le _ _ (all_le hb), k.b1.le _ _ (all_le hb)⟩
theorem FirmH.reads {f h : Nat} {L : FmL} {s : Soc} {z : FmS} {F : Nat → Prop} {w : World} (k : (FirmH f h L s z).sat F w) (hF : ∀ b, F b → b < w.heap.size) : FirmR w f h L s z := by
 obtain ⟨G, g1, g2, _⟩ := k
 have hl : ∀ i, (⟨w, G i⟩ : Piece).Le (all w) := fun i b hb => ⟨hF b (g2 i b hb), rfl⟩
 exact ⟨blk_ron (g1 0 _ rfl).2, SoP.le _ _ (hl 1) (g1 1 _ rfl), StP.le _ _ (hl 2) (g1 2 _ rfl), BxP.le _ _ (hl 3) (g1 3 _ rfl), BxP.le _ _ (hl 4) (g1 4 _ rfl)⟩
def FirmOk (h : Nat) (s : Soc) (v : Value) (hs : List HP) (_ : Piece) : Prop := ∃ f, v = .tuple #[.pointer (some ⟨f, 0, none⟩), .int .i64 0] ∧ hs = [FirmX f h s (fm0 s)]
theorem emp_pic {w : World} (a : AC) (ha : a = (none, 0)) : (HP.pic (BxP a []) (BxP.le (a := a) (l := []))).sat (fun _ => False) w := by
 subst ha
 exact ⟨rfl, fun h => absurd h (by simp)⟩
theorem firmNew_ok (h : Nat) (s : Soc) (hH : s.okH) (A1 A2 A3 A4 : Option Addr) (n1 k1 n2 k2 n3 k3 n4 k4 : Nat) (w : World) (hW : SocW w s A1 n1 A2 n2 A3 n3 A4 n4) :
  Calls Tryz.prog 16 #[.pointer (some ⟨h, 0, none⟩), .agg #[.slice A1 n1 k1, .slice A2 n2 k2, .slice A3 n3 k3, .slice A4 n4 k4]] w (fun y w' => (∃ v hs q, y = .returned v ∧ q.w = w' ∧ FirmOk h s v hs q ∧ New w hs q) ∧ Below w.heap.size w w') := by
 obtain rfl := hW.len1
 obtain rfl := hW.len2
 obtain rfl := hW.len3
 obtain rfl := hW.len4
 refine XK.enter (vs := [.pointer (some ⟨h, 0, none⟩), .agg #[.slice A1 s.clocks.length k1, .slice A2 s.domains.length k2, .slice A3 s.resets.length k3, .slice A4 s.devs.length k4]]) Tryz.func16 rfl Tryz.ntmps16 (by simp) ?_
 refine XK.go ?_
 refine xk_box rfl (by decide) fun g1 => ?_
 dsimp only [Value.cells]
 refine XK.go ?_
 refine kcall (fun w1 t => checkS_call s A1 A2 A3 A4 _ k1 _ k2 _ k3 _ k4 w1 (hW.le (t.started (by simp))) hH.t.chk) ?_
 refine XK.go ?_
 refine XK.drawB [1, 3] ?_
 refine XB.mv 0 ?_
 refine XB.q 1 ?_
 refine XB.q 3 ?_
 refine XB.next 2 rfl (by kernel_rfl) ?_
 refine xk_call [] (f := 21) (fi := []) (ca := []) (by kernel_rfl) rfl rfl (by decide) (by simp) (fun v w w' => CopyOk s v w w') (fun w1 t => copy_any s A1 A2 A3 A4 _ k1 _ k2 _ k3 _ k4 w1 (hW.le (t.started (by simp))) (fun d hd => by
  obtain ⟨j, hj⟩ := List.getElem?_of_mem hd
  have := (hH.t.devs j d hj).2.2.2.2.2.2.2.2.1
  omega)) ?_
 rintro _ w1 q1 ⟨cs, rfl, hcs⟩ hq1 _ hF1
 have hF1 := hF1 (by simp)
 obtain ⟨B1, m1, j1, B2, m2, j2, B3, m3, j3, B4, m4, j4, rfl, hsp⟩ := SocR.P hcs
 have hsp := hsp.le hq1
 obtain ⟨rfl, rfl, rfl, rfl⟩ := hsp.len
 refine XK.ownP (Φ := SoP ⟨(B1, j1), (B2, j2), (B3, j3), (B4, j4), (none, 0), (none, 0), (none, 0), (none, 0), (none, 0), (none, 0), (none, 0), (none, 0)⟩ s) (hm := SoP.le) hF1 (by simp [all]) hsp ?_
 refine XB.bk ?_
 refine XB.next 4 rfl (by kernel_rfl) ?_
 refine xk_call [] (f := 36) (fi := []) (ca := []) (by kernel_rfl) rfl rfl (by decide) (by simp) (fun v w w' => StR (fresh w w') (zeroW s) (zeroW s) v) (fun w1 st => start_any s A1 A2 A3 A4 k1 k2 k3 k4 w1 hH.t) ?_
 rintro _ w2 q2 hst hq2 _ hF2
 have hF2 := hF2 (by simp)
 obtain ⟨x1, x2, x3, y1, y2, y3, rfl, hsp2⟩ := hst.P
 have hsp2 := StP.le _ _ hq2 (hsp2 (B1, j1) (B2, j2) (B3, j3) (B4, j4) (none, 0) (none, 0))
 refine XK.ownP (Φ := StP ⟨(B1, j1), (B2, j2), (B3, j3), (B4, j4), x1, x2, x3, y1, y2, y3, (none, 0), (none, 0)⟩ (zeroW s) (zeroW s)) (hm := StP.le) hF2 (by simp [all]) hsp2 ?_
 refine XB.bk ?_
 refine XB.next 5 rfl (by kernel_rfl) ?_
 refine xk_buildS (zs := [.pointer none, .slice none 0 0, .slice none 0 0, .slice none 0 0, .slice none 0 0, .slice none 0 0, .slice none 0 0, .slice none 0 0, .slice none 0 0, .slice none 0 0, .slice none 0 0, .int .i64 0, .slice none 0 0, .int .i64 0, .slice none 0 0, .int .i64 0, .int .i64 0, .int .u8 0, .int .i64 0]) (L := [(0, 1), (1, 4), (5, 6), (11, 4), (15, 1), (16, 1), (17, 2)]) (zeroB_of (by kernel_rfl)) (by kernel_rfl) rfl (by simp [fillL, setN, Value.cells]; rfl) (by decide) ?_
 refine XB.bt ?_
 refine XB.next 6 rfl (by kernel_rfl) ?_
 refine xk_box rfl (by decide) fun f => ?_
 dsimp only [Value.cells]
 refine XB.bt ?_
 refine XB.next 7 rfl (by kernel_rfl) ?_
 refine kdo ?_
 refine XB.bt ?_
 refine XB.done (by kernel_rfl) ?_
 refine XK.go ?_
 refine XK.chunk0 (p := HP.pic (BxP (none, 0) []) (BxP.le (a := (none, 0)) (l := []))) (fun w => emp_pic _ rfl) ?_
 refine XK.chunk0 (p := HP.pic (BxP (none, 0) []) (BxP.le (a := (none, 0)) (l := []))) (fun w => emp_pic _ rfl) ?_
 refine XK.weak [2, 4, 3, 0, 1] rfl (by decide) (R' := [all w]) (by simp) ?_
 refine XK.pair ?_
 refine XK.more ?_
 refine XK.more ?_
 refine XK.more ?_
 refine XK.toEx 0 (f := fun L : FmL => FirmH f h L s (fm0 s)) ⟨(B1, j1), (B2, j2), (B3, j3), (B4, j4), x1, x2, x3, y1, y2, y3, (none, 0), (none, 0)⟩ rfl ?_
 dsimp only [List.set]
 refine XK.still [] [] [0] (by simp) rfl (by decide) (by decide) fun q _ _ hfr => ?_
 exact XK.ret2 rfl rfl rfl fun w1 t => ⟨⟨_, _, ⟨w1, q.Z⟩, rfl, rfl, ⟨f, rfl, rfl⟩, t.newR (by simp) (by simp) (hfr (by simp) (by simp))⟩, t.below (by simp)⟩
end
section
set_option maxHeartbeats 4000000
set_option maxRecDepth 20000
def boxW (z : FmS) (a : Nat) : List Int := if a = 0 then z.w0 else z.w1
section
variable {N : Frm} {w0 w : World} {e : Env} {R : List Piece} {H : List HP} {K : Act → World → Prop} {f h : Nat} {L : FmL} {s : Soc} {z : FmS} {v : Int} {r : List Int}
theorem BxP.at_ {a : AC} {w : World} (hb : BxP a (v :: r) (all w)) : ∃ b off, a.1 = some ⟨b, off, none⟩ ∧ w.cell? ⟨b, off, none⟩ = some (.int .u32 v) := by
 obtain ⟨b, off, hA, hc⟩ := SlS.u32 hb (by simp)
 exact ⟨b, off, hA, by have := (hc 0 v rfl).2; simpa using this⟩
end
end
section
set_option maxHeartbeats 4000000
set_option maxRecDepth 20000
section
variable {P : Program} {N : Frm} {w0 w : World} {e : Env} {R : List Piece} {H : List HP} {K : Act → World → Prop} {f h : Nat} {L : FmL} {s : Soc} {z : FmS} {Q : Exit → Act → World → Prop}
end
def bxA (L : FmL) (b : Nat) : AC := if b = 0 then L.b0 else L.b1
section
variable {h : Nat} {L : FmL} {s : Soc} {z : FmS}
theorem FirmR.box {w : World} {f : Nat} (k : FirmR w f h L s z) {b : Nat} (hb : b < 2) : SlS (all w) 1 (bxA L b).1 (boxW z b).length (u32Cells (boxW z b)) := by
 obtain rfl | rfl : b = 0 ∨ b = 1 := by omega
 ·exact k.b0
 ·exact k.b1
theorem FirmR.stR {w : World} {f : Nat} (k : FirmR w f h L s z) : StR (all w) z.x z.y (.agg #[.slice L.x1.1 z.x.d.length L.x1.2, .slice L.x2.1 z.x.c.length L.x2.2, .slice L.x3.1 z.x.l.length L.x3.2, .slice L.y1.1 z.y.d.length L.y1.2, .slice L.y2.1 z.y.c.length L.y2.2, .slice L.y3.1 z.y.l.length L.y3.2]) :=
 ⟨_, _, _, _, _, _, _, _, _, _, _, _, rfl, k.st.1, k.st.2.1, k.st.2.2.1, k.st.2.2.2.1, k.st.2.2.2.2.1, k.st.2.2.2.2.2⟩
end
structure FmOk (s : Soc) (z : FmS) : Prop where
 la : z.last = 0 ∨ z.last = 1
 u0 : U32s z.w0
 u1 : U32s z.w1
 n0 : z.w0.length ≤ 1000000
 n1 : z.w1.length ≤ 1000000
 sx : z.x.sm
 sy : z.y.sm
theorem FmOk.box {s : Soc} {z : FmS} (h : FmOk s z) (b : Nat) : U32s (boxW z b) ∧ (boxW z b).length ≤ 1000000 := by
 unfold boxW
 split
 ·exact ⟨h.u0, h.n0⟩
 ·exact ⟨h.u1, h.n1⟩
end
section
set_option maxHeartbeats 4000000
set_option maxRecDepth 20000
section
variable {P : Program} {N : Frm} {w0 w : World} {K : Act → World → Prop} {e : Env} {R : List Piece} {H H' : List HP}
theorem XK.enterDM {nn : Nat} {F : Nat → Prop} {p : HP} {f : FuncId} {fn : Func} {c : Code} {vs : List Value} {Post : Ending → World → Prop} (hf : P.funcs[f]? = some fn) (hb : fn.body = some c) (hN : fn.ntmps = nn) (hl : vs.length ≤ nn) (hp : p.sat F w) (hF : ∀ b, F b → b < w.heap.size)
  (h : XK ⟨nn, []⟩ w (c.wp P (bodyPostD P fn Post)) (argEnv 0 vs) [⟨w, fun b => b < w.heap.size ∧ ¬ F b⟩] [p]) : Calls P f vs.toArray w Post := by
 refine calls_of_wp_defers hf hb (h _ _ ⟨?_, rfl, fun t v hv => ?_⟩ (St.startM hp hF))
 ·simp; omega
 ·obtain ⟨_, h2⟩ := argEnv_get vs 0 t v hv
  rw [Nat.sub_zero] at h2
  have hlt : t < vs.length := by
   rcases Nat.lt_or_ge t vs.length with h | h
   ·exact h
   ·rw [List.getElem?_eq_none h] at h2; cases h2
  rw [Array.getElem?_append_left (by simpa using hlt)]
  simpa using h2
theorem XK.leave0 {nn : Nat} {f : FuncId} {fi ca : List Value} {fn : Func} {Post : Ending → World → Prop} {x : Exit} (hx : x = .ret ∨ x = .normal) (hf : callB P f = true)
  (hcl : ∀ w, CallsD P f (fi ++ ca).toArray .returning w fun y u' w' => y = .returned (.tuple #[]) ∧ u' = .returning ∧ w' = w) (hr : fn.results = #[])
  (h : ∀ w, St w0 R H w → Post (.returned (.tuple #[])) w) : XK ⟨nn, [dfd f fi ca]⟩ w0 (bodyPostD P fn Post x) e R H := by
 have key : XK ⟨nn, [dfd f fi ca]⟩ w0 (bodyPostD P fn Post .ret) e R H := XK.leaveR (H' := H) hf (fun w1 st => (hcl w1).mono fun y u' w' h => by
  obtain ⟨h1, h2, rfl⟩ := h
  exact ⟨⟨_, h1⟩, h2, st⟩) fun a w1 _ st => ⟨.tuple #[], results_none hr _ _ _, h w1 st⟩
 rcases hx with rfl | rfl
 ·exact key
 ·exact key
end
section
variable {N : Frm} {w0 w : World} {e : Env} {R : List Piece} {H : List HP} {K : Act → World → Prop} {f : Nat} {hL : HL} {s : Soc} {z : FmS} {x : HwS}
end
end
section
theorem U32s.snoc {l : List Int} {x : Int} (h : U32s l) (hx : 0 ≤ x ∧ x < 4294967296) : U32s (l ++ [x]) := by
 intro y hy
 rcases List.mem_append.1 hy with hy | hy
 ·exact h y hy
 ·simp at hy; subst hy; exact hx
theorem U32s.set {l : List Int} {x : Int} {i : Nat} (h : U32s l) (hx : 0 ≤ x ∧ x < 4294967296) : U32s (l.set i x) := by
 intro y hy
 rcases List.mem_or_eq_of_mem_set hy with hy | hy
 ·exact h y hy
 ·subst hy; exact hx
theorem U32s.take {l : List Int} {n : Nat} (h : U32s l) : U32s (l.take n) := fun y hy => h y (List.mem_of_mem_take hy)
end
section
set_option maxHeartbeats 4000000
set_option maxRecDepth 20000
def LetP (p : Piece) : Prop := ∀ (i : Nat) (v : Int), [(114 : Int), 97, 115, 100][i]? = some v → p.Z 0 ∧ p.w.cell? ⟨0, i, none⟩ = some (.int .u8 v)
theorem LetP.at_ {p : Piece} {w : World} (h : LetP p) (hl : p.Le (all w)) : Letters w := fun i v hv => by
 obtain ⟨h1, h2⟩ := h i v hv
 obtain ⟨h3, h4⟩ := hl 0 h1
 refine ⟨h3, ?_⟩
 rw [← h2]
 exact World.cell?_of_block h4
theorem LetP.le {p q : Piece} (h : LetP p) (hl : p.Le q) : LetP q := fun i v hv => by
 obtain ⟨h1, h2⟩ := h i v hv
 obtain ⟨h3, h4⟩ := hl 0 h1
 exact ⟨h3, (World.cell?_of_block h4).trans h2⟩
section
variable {N : Frm} {w0 w : World} {e : Env} {R : List Piece} {H : List HP} {Q : Exit → Act → World → Prop} {ops : Array Oper} {rest : List Oper} {K : Act → World → Prop}
variable {d : Nat} {ty : TypeId} {pos : String} {aft : Array Edge} {f h : Nat} {L : FmL} {s : Soc} {z : FmS}
end
variable (f : Nat) (hL : HL) (s : Soc) (z : FmS) (x : HwS) (w : World)
end
section
set_option maxHeartbeats 4000000
set_option maxRecDepth 20000
structure Ans where
 id : Int
 dev : Int
 dead : Bool
 val : Int
def Ans.cells (a : Ans) : List Value := [.int .i64 a.id, .int .i64 a.dev, .bool a.dead, .int .u32 a.val]
section
variable {s : Soc} {x : HwS}
end
section
variable (L : HL) (s : Soc) (x : HwS) (w : World)
end
end
section
set_option maxHeartbeats 4000000
set_option maxRecDepth 20000
structure TkS where
 st : Int
 kind : Int
 dev : Int
 reg : Int
 val : Int
 err : Int
 res : Int
 hs : List Int
def tk0 : TkS := ⟨0, 0, 0, 0, 0, 0, 0, [0, 0, 0, 0, 0, 0]⟩
def hG (t : TkS) (i : Nat) : Int := t.hs.getD i 0
structure RpS where
 cn : Cn
 wn : Wsh
 t0 : TkS
 t1 : TkS
 t2 : TkS
 hol : Int
 steps : List Stp
 sent : Bool
 posted : Bool
 id : Int
 many : Int
def rp0 (s : Soc) : RpS := ⟨⟨[], false⟩, zeroW s, tk0, tk0, tk0, -1, [], false, false, 0, 0⟩
def RpS.tk (z : RpS) : Nat → TkS
 | 0 => z.t0
 | 1 => z.t1
 | _ => z.t2
def RpS.setT (z : RpS) (j : Nat) (t : TkS) : RpS := { z with t0 := if j = 0 then t else z.t0, t1 := if j = 1 then t else z.t1, t2 := if j = 2 then t else z.t2 }
structure RpL where
 a1 : AC
 a2 : AC
 a3 : AC
 a4 : AC
 gc : Nat
 gm : Nat
 nd : AC
 w1 : AC
 w2 : AC
 w3 : AC
 st : AC
def tkC (t : TkS) : List Value := [.int .i64 t.st, .int .u8 t.kind, .int .i64 t.dev, .int .i64 t.reg, .int .u32 t.val, .int .i64 t.err, .int .u32 t.res, .int .i64 (hG t 0), .int .i64 (hG t 1), .int .i64 (hG t 2), .int .i64 (hG t 3), .int .i64 (hG t 4), .int .i64 (hG t 5)]
def rpC (h f : Nat) (L : RpL) (s : Soc) (z : RpS) : List Value :=
  [.pointer (some ⟨h, 0, none⟩), .pointer (some ⟨f, 0, none⟩), .slice L.a1.1 s.clocks.length L.a1.2, .slice L.a2.1 s.domains.length L.a2.2, .slice L.a3.1 s.resets.length L.a3.2, .slice L.a4.1 s.devs.length L.a4.2, .pointer (some ⟨L.gc, 0, none⟩), .slice L.w1.1 z.wn.d.length L.w1.2, .slice L.w2.1 z.wn.c.length L.w2.2, .slice L.w3.1 z.wn.l.length L.w3.2,
   .int .i64 z.t0.st, .int .u8 z.t0.kind, .int .i64 z.t0.dev, .int .i64 z.t0.reg, .int .u32 z.t0.val, .int .i64 z.t0.err, .int .u32 z.t0.res, .int .i64 (hG z.t0 0), .int .i64 (hG z.t0 1), .int .i64 (hG z.t0 2), .int .i64 (hG z.t0 3), .int .i64 (hG z.t0 4), .int .i64 (hG z.t0 5),
   .int .i64 z.t1.st, .int .u8 z.t1.kind, .int .i64 z.t1.dev, .int .i64 z.t1.reg, .int .u32 z.t1.val, .int .i64 z.t1.err, .int .u32 z.t1.res, .int .i64 (hG z.t1 0), .int .i64 (hG z.t1 1), .int .i64 (hG z.t1 2), .int .i64 (hG z.t1 3), .int .i64 (hG z.t1 4), .int .i64 (hG z.t1 5),
   .int .i64 z.t2.st, .int .u8 z.t2.kind, .int .i64 z.t2.dev, .int .i64 z.t2.reg, .int .u32 z.t2.val, .int .i64 z.t2.err, .int .u32 z.t2.res, .int .i64 (hG z.t2 0), .int .i64 (hG z.t2 1), .int .i64 (hG z.t2 2), .int .i64 (hG z.t2 3), .int .i64 (hG z.t2 4), .int .i64 (hG z.t2 5),
   .int .i64 z.hol, .slice L.st.1 z.steps.length L.st.2, .bool z.sent, .bool z.posted, .int .i64 z.id, .int .i64 z.many]
def SoR (L : RpL) (s : Soc) (p : Piece) : Prop := SocP p s L.a1.1 s.clocks.length L.a2.1 s.domains.length L.a3.1 s.resets.length L.a4.1 s.devs.length
theorem SoR.le {L : RpL} {s : Soc} (p q : Piece) (hl : p.Le q) (h : SoR L s p) : SoR L s q := SocP.le h hl
def WnR (L : RpL) (x : Wsh) (p : Piece) : Prop := SlS p 1 L.w1.1 x.d.length (boolCells x.d) ∧ SlS p 1 L.w2.1 x.c.length (boolCells x.c) ∧ SlS p 1 L.w3.1 x.l.length (boolCells x.l)
theorem WnR.le {L : RpL} {x : Wsh} (p q : Piece) (hl : p.Le q) (h : WnR L x p) : WnR L x q := ⟨h.1.le hl, h.2.1.le hl, h.2.2.le hl⟩
def NdR (L : RpL) (s : Soc) (p : Piece) : Prop := GrS p L.nd.1 (needsG s).length (needsG s)
theorem NdR.le {L : RpL} {s : Soc} (p q : Piece) (hl : p.Le q) (h : NdR L s p) : NdR L s q := GrS.le h hl
def SpR (L : RpL) (l : List Stp) (p : Piece) : Prop := SlS p 4 L.st.1 l.length (l.flatMap Stp.cells) ∧ l.length ≤ L.st.2
theorem SpR.le {L : RpL} {l : List Stp} (p q : Piece) (hl : p.Le q) (h : SpR L l p) : SpR L l q := ⟨h.1.le hl, h.2⟩
def RpmH (g h f : Nat) (L : RpL) (s : Soc) (z : RpS) : HP := HP.many [HP.blk g 98 (rpC h f L s z), HP.pic (SoR L s) (SoR.le (L := L) (s := s)), HP.pic (WnR L z.wn) (WnR.le (L := L) (x := z.wn)), CntH L.gc L.gm (.slice L.nd.1 (needsG s).length L.nd.2) z.cn, HP.pic (NdR L s) (NdR.le (L := L) (s := s)), HP.pic (SpR L z.steps) (SpR.le (L := L) (l := z.steps))]
def RpmX (g h f : Nat) (s : Soc) (z : RpS) : HP := HP.ex fun L : RpL => RpmH g h f L s z
structure RpmR (w : World) (g h f : Nat) (L : RpL) (s : Soc) (z : RpS) : Prop where
 r0 : ROn w g 0 (rpC h f L s z)
 so : SoR L s (all w)
 wn : WnR L z.wn (all w)
 cn : ROn w L.gc 0 [.slice L.nd.1 (needsG s).length L.nd.2, .map (some L.gm), .bool z.cn.asl]
 nd : NdR L s (all w)
 sp : SpR L z.steps (all w)
theorem RpmR.below {w w' : World} {g h f : Nat} {L : RpL} {s : Soc} {z : RpS} (k : RpmR w g h f L s z) (hb : Below w.heap.size w w') : RpmR w' g h f L s z :=
 ⟨k.r0.below hb, k.so.le _ _ (all_le hb), k.wn.le _ _ (all_le hb), k.cn.below hb, k.nd.le _ _ (all_le hb), k.sp.le _ _ (all_le hb)⟩
theorem RpmH.reads {g h f : Nat} {L : RpL} {s : Soc} {z : RpS} {F : Nat → Prop} {w : World} (k : (RpmH g h f L s z).sat F w) (hF : ∀ b, F b → b < w.heap.size) : RpmR w g h f L s z := by
 obtain ⟨G, g1, g2, _⟩ := k
 have hl : ∀ i, (⟨w, G i⟩ : Piece).Le (all w) := fun i b hb => ⟨hF b (g2 i b hb), rfl⟩
 obtain ⟨G', k1, _, _⟩ := g1 3 _ rfl
 exact ⟨blk_ron (g1 0 _ rfl).2, SoR.le _ _ (hl 1) (g1 1 _ rfl), WnR.le _ _ (hl 2) (g1 2 _ rfl), blk_ron (k1 0 _ rfl).2, NdR.le _ _ (hl 4) (g1 4 _ rfl), SpR.le _ _ (hl 5) (g1 5 _ rfl)⟩
theorem St.rpmR {w0 w : World} {R : List Piece} {H : List HP} {g h f : Nat} {L : RpL} {s : Soc} {z : RpS} (t : St w0 R H w) (i : Nat) (hi : H[i]? = some (RpmH g h f L s z)) : RpmR w g h f L s z := by
 obtain ⟨F, h1, h2, _⟩ := t.chunk hi
 exact RpmH.reads h1 h2
theorem rpKnown_any (t : Int) (w : World) : Calls Tryz.prog 23 #[.int .i64 t] w (Rt (.bool (inB 3 t)) w) := by
 refine XK.enter (vs := [.int .i64 t]) Tryz.func23 rfl Tryz.ntmps23 (by simp) ?_
 refine XK.go ?_
 refine xk_split (t := 5) rfl (fun h => ?_) (fun h => ?_)
 ·refine XK.go ?_
  refine XK.retE (by simp) ?_
  unfold inB
  congr 1
  simp; omega
 ·refine XK.go ?_
  refine XK.retE (by simp) ?_
  have : inB 3 t = false := decide_eq_false (by omega)
  rw [this]
theorem in3 {t : Int} (h : inB 3 t = true) : ∃ j : Nat, t = (j : Int) ∧ (j = 0 ∨ j = 1 ∨ j = 2) := by
 have := of_decide_eq_true h
 exact ⟨t.toNat, by omega, by omega⟩
section
variable (g h f : Nat) (L : RpL) (s : Soc) (z : RpS) (w : World)
theorem rpDevice_any (d : Int) (hR : RpmR w g h f L s z) : Calls Tryz.prog 192 #[.pointer (some ⟨g, 0, none⟩), .int .i64 d] w (Rt (.bool (inB s.devs.length d)) w) := by
 have k5 := hR.r0.at_ (j := 5) rfl
 refine XK.enter (vs := [.pointer (some ⟨g, 0, none⟩), .int .i64 d]) Tryz.func192 rfl Tryz.ntmps192 (by simp) ?_
 refine XK.go ?_
 refine xk_split (t := 7) rfl (fun h => ?_) (fun h => ?_)
 ·refine XK.go ?_
  refine XK.retE (by simp) ?_
  unfold inB
  congr 1
  simp; omega
 ·refine XK.go ?_
  refine XK.retE (by simp) ?_
  have : inB s.devs.length d = false := decide_eq_false (by omega)
  rw [this]
def busyZ (z : RpS) (t : Int) : Bool := inB 3 t && decide ((z.tk t.toNat).st ≠ 0)
theorem rpBusy_any (t : Int) (hR : RpmR w g h f L s z) : Calls Tryz.prog 12 #[.pointer (some ⟨g, 0, none⟩), .int .i64 t] w (Rt (.bool (busyZ z t)) w) := by
 have k0 := hR.r0.at_ (j := 10) rfl
 have k1 := hR.r0.at_ (j := 23) rfl
 have k2 := hR.r0.at_ (j := 36) rfl
 unfold busyZ
 refine XK.enter (vs := [.pointer (some ⟨g, 0, none⟩), .int .i64 t]) Tryz.func12 rfl Tryz.ntmps12 (by simp) ?_
 refine XK.go ?_
 refine kcall (fun w1 _ => rpKnown_any t w1) ?_
 cases hin : inB 3 t
 ·refine XK.go ?_
  exact XK.retE (by simp) rfl
 ·obtain ⟨j, rfl, hj⟩ := in3 hin
  rcases hj with rfl | rfl | rfl
  all_goals
   refine XK.go ?_
   refine kd (datA _ _ (ho := rfl)) ?_
   refine XK.go ?_
   refine XK.retE (by simp) ?_
   simp [RpS.tk]
theorem rpHolder_any (hR : RpmR w g h f L s z) : Calls Tryz.prog 13 #[.pointer (some ⟨g, 0, none⟩)] w (Rt (.int .i64 z.hol) w) := by
 have k0 := hR.r0.at_ (j := 49) rfl
 refine XK.enter (vs := [.pointer (some ⟨g, 0, none⟩)]) Tryz.func13 rfl Tryz.ntmps13 (by simp) ?_
 refine XK.go ?_
 exact XK.retE (by simp) rfl
end
end
section
set_option maxHeartbeats 4000000
set_option maxRecDepth 20000
section
variable {N : Frm} {w0 : World} {e : Env} {R : List Piece} {H : List HP} {Q : Exit → Act → World → Prop} {ops : Array Oper} {rest : List Oper} {pos : String} {ty : TypeId} {aft : Array Edge}
theorem kstN (i : Nat) {x y : Operand} {s t : TypeId} {g o : Nat} {cs vs : List Value} (hi : H[i]? = some (HP.blk g t cs)) (k : XK N w0 (wpList Tryz.prog ops Q rest) e R (H.set i (HP.blk g t (putN cs o vs)))) (hx : e.ev x = some (.pointer (some ⟨g, o, none⟩)) := by rfl) (hy : e.ev y = some (.agg vs.toArray) := by rfl) (hs : (Tryz.prog.info? s).any (·.size == vs.length) = true := by kernel_rfl) (h1 : vs.all Value.oneCell' = true := by rfl) (hl : decide (o + vs.length ≤ cs.length) = true := by rfl) :
  XK N w0 (wpList Tryz.prog ops Q (⟨none, .store s x y, ty, pos, aft, none⟩ :: rest)) e R H :=
 xk_storeN i hi hx hy hs (fun u hu => List.all_eq_true.1 h1 u (by simpa [Value.cells] using hu)) (by simpa [Value.cells] using of_decide_eq_true hl) (by simpa [Value.cells] using k)
end
section
variable {P : Program} {N : Frm} {w0 w : World} {e : Env} {R : List Piece} {H : List HP} {p : HP} {Q : Exit → Act → World → Prop}
theorem St.emp0 (st : St w0 R (p :: H) w) : St w0 R (HP.emp :: H) w := st.turn (i := 0) (p := p) rfl (Nat.le_refl _) rfl rfl rfl fun F _ hlt => ⟨F, trivial, fun b hb => ⟨.inl hb, hlt b hb⟩, fun _ _ _ => rfl⟩
theorem XK.drawE (Z : List Nat) {id : Nat} {l : List Oper} (h : XB P N w0 l.toArray Q R (HP.emp :: H) Z l.length (Array.replicate l.length false) e R (p :: H)) (hm : P.follows .mixedOrders = true := by kernel_rfl) (hc : Region.noSelect l.toArray = true := by kernel_rfl) : XK N w0 ((Code.region id l.toArray true).wp P Q) e R (p :: H) := fun a w hr st => by
 have := h ⟨Down.start _ _, hc⟩ a w.drew hr st.drew
 refine wp_region_any hm (wpAny_of_y (S := St w0 R (HP.emp :: H)) (Z := Z) _ _ _ _ ?_)
 simpa using this
end
def effV (k : Int) : Value := if k = 103 then .iface 199 (.agg #[]) else if k = 112 then .iface 200 (.agg #[]) else if k = 114 then .iface 202 (.agg #[.bool false]) else if k = 119 then .iface 202 (.agg #[.bool true]) else if k = 115 then .iface 203 (.agg #[]) else if k = 109 then .iface 204 (.agg #[]) else .nilIface
def isCall (k : Int) : Prop := k = 103 ∨ k = 112 ∨ k = 114 ∨ k = 119 ∨ k = 115 ∨ k = 109
instance (k : Int) : Decidable (isCall k) := by unfold isCall; infer_instance
theorem rpEffectOf_any (k : Int) (w : World) : Calls Tryz.prog 24 #[.int .u8 k] w (Rt (effV k) w) := by
 unfold effV
 refine XK.enter (vs := [.int .u8 k]) Tryz.func24 rfl Tryz.ntmps24 (by simp) ?_
 refine XK.go ?_
 refine XK.if_ rfl (fun h0 => ?_) (fun h0 => ?_)
 ·rw [if_pos h0]
  refine XK.go ?_
  refine xk_buildS (zs := []) (L := []) (zeroB_of (by kernel_rfl)) (by kernel_rfl) rfl (by simp [fillL, setN, Value.cells]; rfl) (by decide) ?_
  refine kd (does_mkI rfl) ?_
  refine XK.go ?_
  exact XK.retE (by simp) rfl
 rw [if_neg h0]
 refine XK.go ?_
 refine XK.if_ rfl (fun h1 => ?_) (fun h1 => ?_)
 ·rw [if_pos h1]
  refine XK.go ?_
  refine xk_buildS (zs := []) (L := []) (zeroB_of (by kernel_rfl)) (by kernel_rfl) rfl (by simp [fillL, setN, Value.cells]; rfl) (by decide) ?_
  refine kd (does_mkI rfl) ?_
  refine XK.go ?_
  exact XK.retE (by simp) rfl
 rw [if_neg h1]
 refine XK.go ?_
 refine XK.if_ rfl (fun h2 => ?_) (fun h2 => ?_)
 ·rw [if_pos h2]
  refine XK.go ?_
  refine xk_buildS (zs := [.bool false]) (L := [(0, 1)]) (zeroB_of (by kernel_rfl)) (by kernel_rfl) rfl (by simp [fillL, setN, Value.cells]; rfl) (by decide) ?_
  refine kd (does_mkI rfl) ?_
  refine XK.go ?_
  exact XK.retE (by simp) rfl
 rw [if_neg h2]
 refine XK.go ?_
 refine XK.if_ rfl (fun h3 => ?_) (fun h3 => ?_)
 ·rw [if_pos h3]
  refine XK.go ?_
  refine xk_buildS (zs := [.bool false]) (L := [(0, 1)]) (zeroB_of (by kernel_rfl)) (by kernel_rfl) rfl (by simp [fillL, setN, Value.cells]; rfl) (by decide) ?_
  refine kd (does_mkI rfl) ?_
  refine XK.go ?_
  exact XK.retE (by simp) rfl
 rw [if_neg h3]
 refine XK.go ?_
 refine XK.if_ rfl (fun h4 => ?_) (fun h4 => ?_)
 ·rw [if_pos h4]
  refine XK.go ?_
  refine xk_buildS (zs := []) (L := []) (zeroB_of (by kernel_rfl)) (by kernel_rfl) rfl (by simp [fillL, setN, Value.cells]; rfl) (by decide) ?_
  refine kd (does_mkI rfl) ?_
  refine XK.go ?_
  exact XK.retE (by simp) rfl
 rw [if_neg h4]
 refine XK.go ?_
 refine XK.if_ rfl (fun h5 => ?_) (fun h5 => ?_)
 ·rw [if_pos h5]
  refine XK.go ?_
  refine xk_buildS (zs := []) (L := []) (zeroB_of (by kernel_rfl)) (by kernel_rfl) rfl (by simp [fillL, setN, Value.cells]; rfl) (by decide) ?_
  refine kd (does_mkI rfl) ?_
  refine XK.go ?_
  exact XK.retE (by simp) rfl
 rw [if_neg h5]
 refine XK.go ?_
 exact XK.retE (by simp) rfl
theorem eff_nil {k : Int} (h : ¬ isCall k) : effV k = .nilIface := by
 unfold isCall at h
 unfold effV
 rw [if_neg (by omega), if_neg (by omega), if_neg (by omega), if_neg (by omega), if_neg (by omega), if_neg (by omega)]
theorem eff_some {k : Int} (h : isCall k) : ∃ u y, effV k = .iface u y := by
 rcases h with rfl | rfl | rfl | rfl | rfl | rfl <;> exact ⟨_, _, rfl⟩
def startZ (z : RpS) (t kind dev reg val : Int) : Int × RpS := if inB 3 t = false then (4, z) else if (z.tk t.toNat).st ≠ 0 then (7, z) else if ¬ isCall kind then (1, z) else (0, z.setT t.toNat { z.tk t.toNat with st := 1, kind := kind, dev := dev, reg := reg, val := val })
section
variable (g h f : Nat) (s : Soc) (z : RpS) (w : World) (F : Nat → Prop)
theorem rpStart_m (t kind dev reg val : Int) (hp : (RpmX g h f s z).sat F w) (hF : ∀ b, F b → b < w.heap.size) :
  Calls Tryz.prog 10 #[.pointer (some ⟨g, 0, none⟩), .int .i64 t, .agg #[.int .u8 kind, .int .i64 dev, .int .i64 reg, .int .u32 val]] w (fun y w' => y = .returned (.int .i64 (startZ z t kind dev reg val).1) ∧ ∃ F', (RpmX g h f s (startZ z t kind dev reg val).2).sat F' w' ∧ Turns w w' F F') := by
 unfold startZ
 refine XK.enterM (p := RpmX g h f s z) (F := F) (vs := [.pointer (some ⟨g, 0, none⟩), .int .i64 t, .agg #[.int .u8 kind, .int .i64 dev, .int .i64 reg, .int .u32 val]]) Tryz.func10 rfl Tryz.ntmps10 (by simp) hp hF ?_
 refine XK.go ?_
 refine xk_box rfl (by decide) fun g1 => ?_
 dsimp only [Value.cells]
 refine XK.go ?_
 refine kcall (fun w1 _ => rpKnown_any t w1) ?_
 cases hin : inB 3 t
 ·refine XK.go ?_
  exact XK.ret1 rfl rfl fun w1 t => ⟨rfl, t.turns hF (by simp) (i := 1) rfl⟩
 ·rw [if_neg (by simp)]
  obtain ⟨j, rfl, hj⟩ := in3 hin
  rw [Int.toNat_natCast]
  refine XK.openEx 1 rfl fun L => ?_
  dsimp only [List.set]
  refine XK.take 1 0 rfl rfl ?_
  dsimp only [List.set]
  by_cases hst : (z.tk j).st = 0
  ·rw [if_neg (by simpa using hst)]
   by_cases hk : isCall kind
   ·rw [if_neg (by simpa using hk)]
    obtain ⟨u, y, hy⟩ := eff_some hk
    obtain ⟨z', hz⟩ : ∃ z', z' = z.setT j { z.tk j with st := 1, kind := kind, dev := dev, reg := reg, val := val } := ⟨_, rfl⟩
    rw [← hz]
    rcases hj with rfl | rfl | rfl
    all_goals
     refine XK.go ?_
     refine kd (datA _ _ (ho := rfl)) ?_
     refine XK.go ?_
     refine XK.if_ rfl (fun h1 => absurd hst h1) (fun _ => ?_)
     refine XK.go ?_
     refine kcall (fun w1 _ => rpEffectOf_any kind w1) ?_
     rw [hy]
     refine XK.go ?_
     refine kd (does_iN rfl (.inr ⟨⟨_, _, rfl⟩, rfl⟩)) ?_
     refine XK.go ?_
     refine kd (datA _ _ (ho := rfl)) ?_
     refine XK.go ?_
     refine XK.drawE [2] ?_
     refine XB.mv 0 ?_ (hsub := fun _ h => h.emp0)
     refine XB.mv 1 ?_ (hsub := fun _ h => h.emp0)
     refine XB.q 2 ?_ (hsub := fun _ h => h.emp0)
     refine XB.next 3 rfl (by kernel_rfl) ?_
     refine kdo ?_
     refine XB.bk ?_ (hS := fun _ h => h.emp0)
     refine XB.next 4 rfl (by kernel_rfl) ?_
     refine kdo ?_
     refine XB.bk ?_ (hS := fun _ h => h.emp0)
     refine XB.next 5 rfl (by kernel_rfl) ?_
     refine kst rfl rfl ?_ (hs := StoreAt.mk 0 rfl OneT.h rfl (of_decide_eq_true rfl))
     dsimp only [List.set]
     refine XB.bk ?_ (hS := fun _ h => h.emp0)
     refine XB.next 6 rfl (by kernel_rfl) ?_
     refine kdo ?_
     refine XB.bk ?_ (hS := fun _ h => h.emp0)
     refine XB.next 7 rfl (by kernel_rfl) ?_
     refine kdo ?_
     refine XB.bk ?_ (hS := fun _ h => h.emp0)
     refine XB.next 8 rfl (by kernel_rfl) ?_
     refine kstN 0 rfl ?_
     dsimp only [List.set]
     refine XB.bk ?_ (hS := fun _ h => h.emp0)
     refine XB.done (by kernel_rfl) ?_
     refine XK.go ?_
     refine XK.give 1 0 rfl rfl ?_
     dsimp only [List.set]
     refine XK.toEx 1 (f := fun L : RpL => RpmH g h f L s z') L (by subst hz; rfl) ?_
     dsimp only [List.set]
     exact XK.ret1 rfl rfl fun w1 t => ⟨rfl, t.turns hF (by simp) (i := 1) rfl⟩
   ·rw [if_pos (by simpa using hk)]
    rcases hj with rfl | rfl | rfl
    all_goals
     refine XK.go ?_
     refine kd (datA _ _ (ho := rfl)) ?_
     refine XK.go ?_
     refine XK.if_ rfl (fun h1 => absurd hst h1) (fun _ => ?_)
     refine XK.go ?_
     refine kcall (fun w1 _ => rpEffectOf_any kind w1) ?_
     rw [eff_nil hk]
     refine XK.go ?_
     refine kd (does_iN rfl (.inl ⟨rfl, rfl⟩)) ?_
     refine XK.go ?_
     refine XK.give 1 0 rfl rfl ?_
     dsimp only [List.set]
     refine XK.toEx 1 (f := fun L : RpL => RpmH g h f L s z) L rfl ?_
     dsimp only [List.set]
     exact XK.ret1 rfl rfl fun w1 t => ⟨rfl, t.turns hF (by simp) (i := 1) rfl⟩
  ·rw [if_pos hst]
   rcases hj with rfl | rfl | rfl
   all_goals
    refine XK.go ?_
    refine kd (datA _ _ (ho := rfl)) ?_
    refine XK.go ?_
    refine XK.if_ rfl (fun _ => ?_) (fun h1 => absurd (Decidable.not_not.1 h1) hst)
    refine XK.go ?_
    refine XK.give 1 0 rfl rfl ?_
    dsimp only [List.set]
    refine XK.toEx 1 (f := fun L : RpL => RpmH g h f L s z) L rfl ?_
    dsimp only [List.set]
    exact XK.ret1 rfl rfl fun w1 t => ⟨rfl, t.turns hF (by simp) (i := 1) rfl⟩
end
end
section
set_option maxHeartbeats 4000000
set_option maxRecDepth 20000
section
variable {N : Frm} {w0 : World} {e : Env} {R : List Piece} {H : List HP} {K : Act → World → Prop}
theorem RdN.mid (i : Nat) {b o : Nat} {t : TypeId} {cs vs : List Value} (hi : H[i]? = some (HP.blk b t cs)) (hv : (cs.drop o).take vs.length = vs) : RdN w0 R H b o vs := RdN.blk i hi fun j v hj => by
 rw [← hv, List.getElem?_take] at hj
 split at hj
 ·rw [List.getElem?_drop] at hj
  exact hj
 ·cases hj
theorem XK.reuseIn (j i : Nat) {ps : List HP} {p q : HP} (hj : H[j]? = some (HP.many ps)) (hi : ps[i]? = some p) (hq : ∀ F w, p.sat F w → q.sat F w) (k : XK N w0 K e R (H.set j (HP.many (ps.set i q)))) : XK N w0 K e R H := by
 have hlt := (List.getElem?_eq_some_iff.1 hj).1
 have hli := (List.getElem?_eq_some_iff.1 hi).1
 refine XK.take j i hj hi ?_
 refine XK.reuse 0 rfl hq ?_
 refine XK.give j i (by rw [List.getElem?_set_self hlt]) (by rw [List.getElem?_set_self hli]) ?_
 rw [List.set_set, List.set_set]
 exact k
end
def endZ (z : RpS) (j : Nat) (err res : Int) : RpS := { z.setT j { z.tk j with st := 3, err := err, res := res } with hol := -1, steps := [], sent := false, posted := false }
def doneZ (z : RpS) (t : Int) : (Int × Int × Bool) × RpS := if inB 3 t = false then ((0, 0, false), z) else if (z.tk t.toNat).st ≠ 3 then ((0, 0, false), z) else (((z.tk t.toNat).err, (z.tk t.toNat).res, true), z.setT t.toNat { z.tk t.toNat with st := 0, kind := 0, dev := 0, reg := 0, val := 0, err := 0, res := 0 })
section
variable (g h f : Nat) (s : Soc) (z : RpS) (w : World) (F : Nat → Prop)
theorem rpEnd_m (j : Nat) (hol : z.hol = (j : Int)) (hj : j = 0 ∨ j = 1 ∨ j = 2) (err res : Int) (hp : (RpmX g h f s z).sat F w) (hF : ∀ b, F b → b < w.heap.size) :
  Calls Tryz.prog 56 #[.pointer (some ⟨g, 0, none⟩), .agg #[.int .i64 err, .int .u32 res]] w (fun y w' => y = .returned (.tuple #[]) ∧ ∃ F', (RpmX g h f s (endZ z j err res)).sat F' w' ∧ Turns w w' F F') := by
 refine XK.enterM (p := RpmX g h f s z) (F := F) (vs := [.pointer (some ⟨g, 0, none⟩), .agg #[.int .i64 err, .int .u32 res]]) Tryz.func56 rfl Tryz.ntmps56 (by simp) hp hF ?_
 obtain ⟨z', hz⟩ : ∃ z', z' = endZ z j err res := ⟨_, rfl⟩
 rw [← hz]
 refine XK.openEx 0 rfl fun L => ?_
 dsimp only [List.set]
 refine XK.take 0 0 rfl rfl ?_
 dsimp only [List.set]
 rcases hj with rfl | rfl | rfl
 all_goals
  refine XK.go ?_
  refine xk_box rfl (by decide) fun g1 => ?_
  dsimp only [Value.cells]
  refine XK.weak [1, 0, 2] rfl (by decide) (fun _ h => h) ?_
  refine XK.go ?_
  refine XK.drawQ ?_
  refine XQ.go ?_
  refine XQ.kd (datA _ _ (hj := hol) (ho := rfl)) ?_
  refine XQ.end_ ?_
  refine XK.go ?_
  refine XK.drawE [2] ?_
  refine XB.mv 0 ?_ (hsub := fun _ h => h.emp0)
  refine XB.mv 1 ?_ (hsub := fun _ h => h.emp0)
  refine XB.q 2 ?_ (hsub := fun _ h => h.emp0)
  refine XB.next 3 rfl (by kernel_rfl) ?_
  refine kdo ?_
  refine XB.bk ?_ (hS := fun _ h => h.emp0)
  refine XB.next 4 rfl (by kernel_rfl) ?_
  refine kdo ?_
  refine XB.bk ?_ (hS := fun _ h => h.emp0)
  refine XB.next 5 rfl (by kernel_rfl) ?_
  refine kst rfl rfl ?_ (hs := StoreAt.mk 0 rfl OneT.h rfl (of_decide_eq_true rfl))
  dsimp only [List.set]
  refine XB.bk ?_ (hS := fun _ h => h.emp0)
  refine XB.next 6 rfl (by kernel_rfl) ?_
  refine kdo ?_
  refine XB.bk ?_ (hS := fun _ h => h.emp0)
  refine XB.next 7 rfl (by kernel_rfl) ?_
  refine kdo ?_
  refine XB.bk ?_ (hS := fun _ h => h.emp0)
  refine XB.next 8 rfl (by kernel_rfl) ?_
  refine kstN 0 rfl ?_
  dsimp only [List.set]
  refine XB.bk ?_ (hS := fun _ h => h.emp0)
  refine XB.done (by kernel_rfl) ?_
  refine XK.go ?_
  refine kst rfl rfl ?_ (hs := StoreAt.mk 0 rfl OneT.h rfl (of_decide_eq_true rfl))
  dsimp only [List.set]
  refine XK.go ?_
  refine kst rfl rfl ?_ (hs := StoreAt.mk 0 rfl OneT.h rfl (of_decide_eq_true rfl))
  dsimp only [List.set]
  refine XK.go ?_
  refine kst rfl rfl ?_ (hs := StoreAt.mk 0 rfl OneT.h rfl (of_decide_eq_true rfl))
  dsimp only [List.set]
  refine XK.go ?_
  refine kst rfl rfl ?_ (hs := StoreAt.mk 0 rfl OneT.h rfl (of_decide_eq_true rfl))
  dsimp only [List.set]
  refine XK.go ?_
  refine XK.give 1 0 rfl rfl ?_
  dsimp only [List.set]
  refine XK.reuseIn (q := HP.pic (SpR { L with st := (none, 0) } []) (SpR.le (L := { L with st := (none, 0) }) (l := []))) 1 5 rfl rfl (fun F w _ => ⟨SlS.nil _ _, Nat.le_refl _⟩) ?_
  dsimp only [List.set]
  refine XK.toEx 1 (f := fun L : RpL => RpmH g h f L s z') { L with st := (none, 0) } (by subst hz; rfl) ?_
  dsimp only [List.set]
  exact XK.ret0 (.inr rfl) rfl fun w1 t => ⟨rfl, t.turns hF (by simp) (i := 1) rfl⟩
theorem rpDone_m (t : Int) (hp : (RpmX g h f s z).sat F w) (hF : ∀ b, F b → b < w.heap.size) :
  Calls Tryz.prog 11 #[.pointer (some ⟨g, 0, none⟩), .int .i64 t] w (fun y w' => y = .returned (.tuple #[.agg #[.int .i64 (doneZ z t).1.1, .int .u32 (doneZ z t).1.2.1], .bool (doneZ z t).1.2.2]) ∧ ∃ F', (RpmX g h f s (doneZ z t).2).sat F' w' ∧ Turns w w' F F') := by
 unfold doneZ
 refine XK.enterM (p := RpmX g h f s z) (F := F) (vs := [.pointer (some ⟨g, 0, none⟩), .int .i64 t]) Tryz.func11 rfl Tryz.ntmps11 (by simp) hp hF ?_
 refine XK.go ?_
 refine xk_alloc (cs := [.int .i64 0, .int .u32 0]) (zeroB_of (by kernel_rfl)) (by decide) fun g1 => ?_
 refine XK.go ?_
 refine kcall (fun w1 _ => rpKnown_any t w1) ?_
 cases hin : inB 3 t
 ·refine XK.go ?_
  refine xk_buildS (zs := [.int .i64 0, .int .u32 0]) (L := [(0, 1), (1, 1)]) (zeroB_of (by kernel_rfl)) (by kernel_rfl) rfl (by simp [fillL, setN, Value.cells]; rfl) (by decide) ?_
  refine XK.go ?_
  exact XK.retCT (vs := [.int .i64 0, .int .u32 0]) rfl (by kernel_rfl) rfl rfl (RdN.whole 0 rfl) rfl fun w1 t => ⟨rfl, t.turns hF (by simp) (i := 1) rfl⟩
 ·rw [if_neg (by simp)]
  obtain ⟨j, rfl, hj⟩ := in3 hin
  rw [Int.toNat_natCast]
  refine XK.openEx 1 rfl fun L => ?_
  dsimp only [List.set]
  refine XK.take 1 0 rfl rfl ?_
  dsimp only [List.set]
  by_cases hst : (z.tk j).st = 3
  ·rw [if_neg (by simpa using hst)]
   obtain ⟨z', hz⟩ : ∃ z', z' = z.setT j { z.tk j with st := 0, kind := 0, dev := 0, reg := 0, val := 0, err := 0, res := 0 } := ⟨_, rfl⟩
   rw [← hz]
   rcases hj with rfl | rfl | rfl
   all_goals
    refine XK.go ?_
    refine kd (datA _ _ (ho := rfl)) ?_
    refine XK.go ?_
    refine XK.if_ rfl (fun h1 => absurd hst h1) (fun _ => ?_)
    refine XK.go ?_
    refine kd (datA _ _ (ho := rfl)) ?_
    refine XK.go ?_
    refine kd (does_ldA rfl (RdN.mid (vs := [_, _]) 0 rfl rfl)) ?_
    refine xk_alloc (cs := [.int .i64 0, .int .u32 0]) (zeroB_of (by kernel_rfl)) (by decide) fun g2 => ?_
    refine XK.go ?_
    refine xk_buildS (zs := [.int .u8 0, .int .i64 0, .int .i64 0, .int .u32 0]) (L := [(0, 1), (1, 1), (2, 1), (3, 1)]) (zeroB_of (by kernel_rfl)) (by kernel_rfl) rfl (by simp [fillL, setN, Value.cells]; rfl) (by decide) ?_
    refine xk_buildS (zs := [.int .i64 0, .int .u32 0]) (L := [(0, 1), (1, 1)]) (zeroB_of (by kernel_rfl)) (by kernel_rfl) rfl (by simp [fillL, setN, Value.cells]; rfl) (by decide) ?_
    refine XK.go ?_
    refine kst rfl rfl ?_ (hs := StoreAt.mk 1 rfl OneT.h rfl (of_decide_eq_true rfl))
    dsimp only [List.set]
    refine XK.go ?_
    refine kstN 1 rfl ?_
    dsimp only [List.set]
    refine XK.go ?_
    refine kstN 1 rfl ?_
    dsimp only [List.set]
    refine XK.go ?_
    refine XK.weak [1, 0, 2, 3] rfl (by decide) (fun _ h => h) ?_
    refine XK.give 2 0 rfl rfl ?_
    dsimp only [List.set]
    refine XK.toEx 2 (f := fun L : RpL => RpmH g h f L s z') L (by subst hz; rfl) ?_
    dsimp only [List.set]
    exact XK.retCT (vs := [_, _]) rfl (by kernel_rfl) rfl rfl (RdN.whole 1 rfl) rfl fun w1 t => ⟨rfl, t.turns hF (by simp) (i := 2) rfl⟩
  ·rw [if_pos hst]
   rcases hj with rfl | rfl | rfl
   all_goals
    refine XK.go ?_
    refine kd (datA _ _ (ho := rfl)) ?_
    refine XK.go ?_
    refine XK.if_ rfl (fun _ => ?_) (fun h1 => absurd (Decidable.not_not.1 h1) hst)
    refine XK.go ?_
    refine xk_buildS (zs := [.int .i64 0, .int .u32 0]) (L := [(0, 1), (1, 1)]) (zeroB_of (by kernel_rfl)) (by kernel_rfl) rfl (by simp [fillL, setN, Value.cells]; rfl) (by decide) ?_
    refine XK.go ?_
    refine XK.give 1 0 rfl rfl ?_
    dsimp only [List.set]
    refine XK.toEx 1 (f := fun L : RpL => RpmH g h f L s z) L rfl ?_
    dsimp only [List.set]
    exact XK.retCT (vs := [.int .i64 0, .int .u32 0]) rfl (by kernel_rfl) rfl rfl (RdN.whole 0 rfl) rfl fun w1 t => ⟨rfl, t.turns hF (by simp) (i := 1) rfl⟩
end
end
section
set_option maxHeartbeats 4000000
set_option maxRecDepth 20000
def NdP (A : Option Addr) (g : List (List Int)) (p : Piece) : Prop := GrS p A g.length g
theorem NdP.le {A : Option Addr} {g : List (List Int)} (p q : Piece) (hl : p.Le q) (h : NdP A g p) : NdP A g q := GrS.le h hl
def CnN (gc gm : Nat) (A : Option Addr) (k : Nat) (g : List (List Int)) (c : Cn) : HP := HP.many [CntH gc gm (.slice A g.length k) c, HP.pic (NdP A g) (NdP.le (A := A) (g := g))]
theorem St.pic {w0 w : World} {R : List Piece} {H : List HP} {Φ : Piece → Prop} {hm : ∀ p q : Piece, p.Le q → Φ p → Φ q} (t : St w0 R H w) (i : Nat) (hi : H[i]? = some (HP.pic Φ hm)) : Φ (all w) := by
 obtain ⟨F, h1, h2, _⟩ := t.chunk hi
 exact hm ⟨w, F⟩ (all w) (fun b hb => ⟨h2 b hb, rfl⟩) h1
end
section
set_option maxHeartbeats 8000000
set_option maxRecDepth 20000
def WishN (x : Wsh) (v : Value) (hs : List HP) (_ : Piece) : Prop := ∃ (g1 g2 g3 : Nat) (p : HP), v = .agg #[.slice (some ⟨g1, 0, none⟩) x.d.length x.d.length, .slice (some ⟨g2, 0, none⟩) x.c.length x.c.length, .slice (some ⟨g3, 0, none⟩) x.l.length x.l.length] ∧ hs = [HP.many [HP.blk g1 4 (boolCells x.d), HP.blk g2 4 (boolCells x.c), HP.blk g3 4 (boolCells x.l)], p]
theorem wantsN_any (q : Piece) (s : Soc) (A1 A2 A3 A4 : Option Addr) (n1 k1 n2 k2 n3 k3 n4 k4 : Nat) (Aa : Option Addr) (ca : Nat) (act : List Bool) (w : World) (hSP : SocP q s A1 n1 A2 n2 A3 n3 A4 n4) (hm : s.made) (hq : q.Le (all w)) (hact : SlS (all w) 1 Aa act.length (boolCells act)) :
  Calls Tryz.prog 22 #[.agg #[.slice A1 n1 k1, .slice A2 n2 k2, .slice A3 n3 k3, .slice A4 n4 k4], .slice Aa act.length ca] w (fun y w' => (∃ v hs q, y = .returned v ∧ q.w = w' ∧ WishN (wants s act) v hs q ∧ New w hs q) ∧ Below w.heap.size w w') := by
 obtain ⟨rfl, rfl, rfl, rfl⟩ := hSP.len
 refine XK.enter (vs := [.agg #[.slice A1 s.clocks.length k1, .slice A2 s.domains.length k2, .slice A3 s.resets.length k3, .slice A4 s.devs.length k4], .slice Aa act.length ca]) Tryz.func22 rfl Tryz.ntmps22 (by simp) ?_
 refine XK.piece q (by simp) hq ?_
 have hn9 := hm.nc
 have hn4 := hm.nd
 have hn3 := hm.nr
 have hnv := hm.nv
 refine XK.seq ?_
 refine XK.region ?_
 refine xk_box rfl (by decide) fun g1 => ?_
 refine xk_alloc (cs := [.slice none 0 0, .slice none 0 0, .slice none 0 0]) (zeroB_of (by kernel_rfl)) (by decide) fun g2 => ?_
 refine XK.nilN ?_
 refine XK.seq ?_
 refine XK.seq ?_
 refine XK.region ?_
 refine xk_ldN 4 rfl ?_
 refine xk_callR (f := 28) (fi := []) (ca := []) (by kernel_rfl) rfl rfl (by decide) (fun w1 st => checkS_any s A1 A2 A3 A4 _ k1 _ k2 _ k3 _ k4 w1 (hSP.W (st.le (by simp)) (made_small hm))) ?_
 rw [made_check hm]
 refine xk_neq rfl rfl (by decide) ?_
 refine XK.nilN ?_
 refine XK.if_ rfl (fun h => absurd rfl h) (fun h => ?_)
 ·
  refine XK.skip ?_
  refine XK.norm ?_
  refine XK.cut (fun e R H => ∃ ga gb gc gw, e = [(5, .pointer (some ⟨gw, 0, none⟩)), (4, .pointer (some ⟨g2, 0, none⟩)), (2, .pointer (some ⟨g1, 0, none⟩)), (1, .slice Aa act.length ca)] ∧ R = [q, all w] ∧ H = [HP.blk gw 91 [.slice (some ⟨ga, 0, none⟩) s.domains.length s.domains.length, .slice (some ⟨gb, 0, none⟩) s.clocks.length s.clocks.length, .slice (some ⟨gc, 0, none⟩) s.resets.length s.resets.length], HP.blk ga 4 (boolCells (zeroW s).d), HP.blk gb 4 (boolCells (zeroW s).c), HP.blk gc 4 (boolCells (zeroW s).l), HP.blk g2 91 [.slice none 0 0, .slice none 0 0, .slice none 0 0], HP.blk g1 34 [.slice A1 s.clocks.length k1, .slice A2 s.domains.length k2, .slice A3 s.resets.length k3, .slice A4 s.devs.length k4]]) ?_ ?_
  ·
   refine XK.draw 14 (by kernel_rfl) (by kernel_rfl) ?_
   refine XA.dA 0 rfl rfl rfl (does_field (off := 1) (by kernel_rfl) rfl) ?_
   refine XA.dA 1 rfl rfl rfl (does_ld rfl) ?_
   refine XA.dA 2 rfl rfl rfl (does_len (el := 49) (by kernel_rfl) rfl) ?_
   refine XA.dA 4 rfl rfl rfl (does_field (off := 0) (by kernel_rfl) rfl) ?_
   refine XA.dA 5 rfl rfl rfl (does_ld rfl) ?_
   refine XA.dA 6 rfl rfl rfl (does_len (el := 64) (by kernel_rfl) rfl) ?_
   refine XA.dA 8 rfl rfl rfl (does_field (off := 2) (by kernel_rfl) rfl) ?_
   refine XA.dA 9 rfl rfl rfl (does_ld rfl) ?_
   refine XA.dA 10 rfl rfl rfl (does_len (el := 66) (by kernel_rfl) rfl) ?_
   refine XA.allocs (fuel := 2) [3, 7, 11, 13] [[3, 7, 11], [3, 7, 11, 13]] (fun i => match i with | 3 => ⟨19, 4, List.replicate s.domains.length (.bool false), fun g => .slice (some ⟨g, 0, none⟩) s.domains.length s.domains.length⟩ | 7 => ⟨23, 4, List.replicate s.clocks.length (.bool false), fun g => .slice (some ⟨g, 0, none⟩) s.clocks.length s.clocks.length⟩ | 11 => ⟨27, 4, List.replicate s.resets.length (.bool false), fun g => .slice (some ⟨g, 0, none⟩) s.resets.length s.resets.length⟩ | _ => ⟨5, 91, [.slice none 0 0, .slice none 0 0, .slice none 0 0], fun g => .pointer (some ⟨g, 0, none⟩)⟩) (fun i hi => ?_) (by show [19, 23, 27, 5].Nodup; decide) (by kernel_rfl) (fun _ h => h) (fun sub hsub hex g => ?_)
   ·simp only [List.mem_cons, List.not_mem_nil, or_false] at hi
    rcases hi with rfl | rfl | rfl | rfl
    ·exact ALok.of rfl rfl rfl (makes_make 1 (el := 4) (z := .bool false) (by kernel_rfl) (by kernel_rfl) rfl rfl rfl (by omega) (by omega)) (Nat.le_of_ble_eq_true rfl) rfl
    ·exact ALok.of rfl rfl rfl (makes_make 1 (el := 4) (z := .bool false) (by kernel_rfl) (by kernel_rfl) rfl rfl rfl (by omega) (by omega)) (Nat.le_of_ble_eq_true rfl) rfl
    ·exact ALok.of rfl rfl rfl (makes_make 1 (el := 4) (z := .bool false) (by kernel_rfl) (by kernel_rfl) rfl rfl rfl (by omega) (by omega)) (Nat.le_of_ble_eq_true rfl) rfl
    ·exact ALok.of rfl rfl rfl (makes_alloc (zeroB_of (by kernel_rfl))) (Nat.le_of_ble_eq_true rfl) rfl
   have hs2 : sub = [3, 7, 11] ∨ sub = [3, 7, 11, 13] := by simpa using hex
   have er : ∀ n : Nat, List.replicate n (Value.bool false) = boolCells (List.replicate n false) := fun n => by simp [boolCells]
   rcases hs2 with rfl | rfl
   ·dsimp only [envA, hpA, markA, List.map, List.foldr, List.cons_append, List.nil_append, List.length_cons, List.length_nil, Nat.reduceAdd, Nat.reduceSub]
    refine XA.do_ 12 rfl rfl rfl (by decide) (does_buildS (zs := [.slice none 0 0, .slice none 0 0, .slice none 0 0]) (L := [(0, 1), (1, 1), (2, 1)]) (zeroB_of (by kernel_rfl)) (by kernel_rfl) rfl (by simp [fillL, setN, Value.cells]; rfl)) (by kernel_rfl) (fun _ _ _ h => h) (fun _ h => h.tail.tail.tail) ?_
    refine XA.next 13 rfl (by kernel_rfl) ?_
    refine xk_alloc (cs := [.slice none 0 0, .slice none 0 0, .slice none 0 0]) (zeroB_of (by kernel_rfl)) (by decide) fun g6 => ?_
    refine XK.nil ?_; refine XK.thenN ?_; refine XA.back (fun _ h => h.tail.tail.tail.tail) ?_
    refine XA.next 14 rfl (by kernel_rfl) ?_
    refine xk_stN rfl rfl ?_; simp only [putN, Value.cells, List.set, List.take, List.drop, List.nil_append, List.append_nil, List.length_cons, List.length_nil, List.cons_append, Nat.reduceAdd]
    refine XA.bt ?_
    refine XA.done (by kernel_rfl) ?_
    refine XK.norm ?_
    exact XK.weak [0, 1, 2, 3, 4, 5] rfl (by decide) (by simp) (XK.envS [(5, .pointer (some ⟨g6, 0, none⟩)), (4, .pointer (some ⟨g2, 0, none⟩)), (2, .pointer (some ⟨g1, 0, none⟩)), (1, .slice Aa act.length ca)] (XK.meet ⟨g 3, g 7, g 11, g6, rfl, rfl, by simp only [er, zeroW]⟩))
   ·dsimp only [envA, hpA, markA, List.map, List.foldr, List.cons_append, List.nil_append, List.length_cons, List.length_nil, Nat.reduceAdd, Nat.reduceSub]
    refine XA.do_ 12 rfl rfl rfl (by decide) (does_buildS (zs := [.slice none 0 0, .slice none 0 0, .slice none 0 0]) (L := [(0, 1), (1, 1), (2, 1)]) (zeroB_of (by kernel_rfl)) (by kernel_rfl) rfl (by simp [fillL, setN, Value.cells]; rfl)) (by kernel_rfl) (fun _ _ _ h => h) (fun _ h => h.tail.tail.tail.tail) ?_
    refine XA.next 14 rfl (by kernel_rfl) ?_
    refine xk_stN rfl rfl ?_; simp only [putN, Value.cells, List.set, List.take, List.drop, List.nil_append, List.append_nil, List.length_cons, List.length_nil, List.cons_append, Nat.reduceAdd]
    refine XA.bt ?_
    refine XA.done (by kernel_rfl) ?_
    refine XK.norm ?_
    exact XK.weak [3, 0, 1, 2, 4, 5] rfl (by decide) (by simp) (XK.envS [(5, .pointer (some ⟨g 13, 0, none⟩)), (4, .pointer (some ⟨g2, 0, none⟩)), (2, .pointer (some ⟨g1, 0, none⟩)), (1, .slice Aa act.length ca)] (XK.meet ⟨g 3, g 7, g 11, g 13, rfl, rfl, by simp only [er, zeroW]⟩))
  rintro _ _ _ ⟨ga, gb, gc, gw, rfl, rfl, rfl⟩
  refine XK.seq ?_
  refine XK.seq ?_
  refine XK.region ?_
  refine xk_field (off := 3) (by kernel_rfl) rfl (by decide) ?_
  refine xk_ld rfl ?_
  refine xk_len (el := 71) (by kernel_rfl) rfl (by decide) ?_
  refine xk_move rfl (by decide) ?_
  refine XK.nilN ?_
  refine XK.envS [(32, .int .i64 0), (31, .int .i64 s.devs.length), (30, .slice A4 s.devs.length k4), (5, .pointer (some ⟨gw, 0, none⟩)), (4, .pointer (some ⟨g2, 0, none⟩)), (2, .pointer (some ⟨g1, 0, none⟩)), (1, .slice Aa act.length ca)] ?_
  refine XK.block ?_
  refine XK.loop (fun m e R H => ∃ (j : Nat), j ≤ s.devs.length ∧ m = s.devs.length - j ∧ e = [(32, .int .i64 j), (31, .int .i64 s.devs.length), (30, .slice A4 s.devs.length k4), (5, .pointer (some ⟨gw, 0, none⟩)), (4, .pointer (some ⟨g2, 0, none⟩)), (2, .pointer (some ⟨g1, 0, none⟩)), (1, .slice Aa act.length ca)] ∧ R = [q, all w] ∧ H = [HP.blk gw 91 [.slice (some ⟨ga, 0, none⟩) s.domains.length s.domains.length, .slice (some ⟨gb, 0, none⟩) s.clocks.length s.clocks.length, .slice (some ⟨gc, 0, none⟩) s.resets.length s.resets.length], HP.blk ga 4 (boolCells (wantN s act j).d), HP.blk gb 4 (boolCells (wantN s act j).c), HP.blk gc 4 (boolCells (wantN s act j).l), HP.blk g2 91 [.slice none 0 0, .slice none 0 0, .slice none 0 0], HP.blk g1 34 [.slice A1 s.clocks.length k1, .slice A2 s.domains.length k2, .slice A3 s.resets.length k3, .slice A4 s.devs.length k4]]) s.devs.length ⟨0, by omega, rfl, rfl, rfl, rfl⟩ fun m e R H hI => ?_
  obtain ⟨j, hj, rfl, rfl, rfl, rfl⟩ := hI
  refine XK.seq ?_
  refine XK.region ?_
  refine xk_lss rfl rfl (by decide) ?_
  refine XK.nilN ?_
  refine XK.seq ?_
  refine XK.if_ rfl (fun h => ?_) (fun h => ?_)
  ·
   refine XK.skip ?_
   refine XK.norm ?_
   refine XK.seq ?_
   refine XK.block ?_
   refine XK.seq ?_
   have hjl : j < s.devs.length := by have h' : (j : Int) < (s.devs.length : Int) := h; omega
   obtain ⟨x, hx⟩ : ∃ x, s.devs[j]? = some x := ⟨_, List.getElem?_eq_getElem hjl⟩
   obtain ⟨hx1, hx2, hx3, hx4, hx5, hx6, _⟩ := hm.devs j x hx
   obtain ⟨bV, oV, rV, rfl, hzV, _, hR, hcV⟩ := hSP.dev.rowP hx
   obtain ⟨Ar, nr, kr, An, nn, kn, rfl, _⟩ := hR
   have hwo := wantN_of s act j
   obtain ⟨xc, hxc⟩ : ∃ xc : Nat, x.clock = (xc : Int) := ⟨x.clock.toNat, by omega⟩
   obtain ⟨xd, hxd⟩ : ∃ xd : Nat, x.domain = (xd : Int) := ⟨x.domain.toNat, by omega⟩
   obtain ⟨xr, hxr⟩ : ∃ xr : Nat, x.reset = (xr : Int) := ⟨x.reset.toNat, by omega⟩
   have hnx : hasB act j = true → wantN s act (j + 1) = ⟨putAll (ups s xd) (wantN s act j).d, putAll ((chainL s xc).filter (swK s)) (wantN s act j).c, putB (wantN s act j).l (xr : Int) true⟩ := fun ha => by
    rw [wantN_next hx ha, wantStep, hxd, hxc, hxr]; rfl
   rw [hxc, hxd, hxr] at hcV
   generalize hwj : wantN s act j = wj at *
   refine XK.region ?_
   refine xk_move rfl (by decide) ?_
   refine xk_at (j) (oV + j * 6) (el := 71) (sz := 6) (by kernel_rfl) (by kernel_rfl) rfl rfl (by omega) (by omega) (by omega) (by decide) ?_
   refine xk_loadN 6 (by kernel_rfl) rfl (RdN.of (vs := [.int .i64 (xc : Int), .int .i64 (xd : Int), .int .i64 (xr : Int), .int .u32 x.clamp, .slice Ar nr kr, .slice An nn kn]) fun f v hf => Rd.ro (p := q) (by simp) hzV (hcV f v hf)) rfl (by decide) ?_
   refine xk_alloc (cs := [.int .i64 0, .int .i64 0, .int .i64 0, .int .u32 0, .slice none 0 0, .slice none 0 0]) (zeroB_of (by kernel_rfl)) (by decide) fun g7 => ?_
   refine xk_assign rfl (by decide) ?_
   refine xk_stN rfl rfl ?_; simp only [putN, Value.cells, List.set, List.take, List.drop, List.nil_append, List.append_nil, List.length_cons, List.length_nil, List.cons_append, Nat.reduceAdd]
   refine XK.nilN ?_
   refine XK.seq ?_
   refine XK.seq ?_
   refine XK.region ?_
   refine xk_move rfl (by decide) ?_
   refine xk_move rfl (by decide) ?_
   refine xk_callR (f := 54) (fi := []) (ca := []) (by kernel_rfl) rfl rfl (by decide) (fun w1 st => has_any Aa act.length ca j act w1 (hact.le (st.le (by simp))) rfl (by omega)) ?_
   (first | refine xk_notD rfl (by decide) ?_ | refine xk_not rfl (by decide) ?_)
   refine XK.nilN ?_
   refine XK.cond rfl (fun h => ?_) (fun h => ?_)
   ·
    refine XK.exit ?_
    refine XK.norm ?_
    refine XK.region ?_
    refine xk_add rfl rfl (wrap_in (by omega)) (by decide) ?_
    refine xk_move rfl (by decide) ?_
    refine XK.nilN ?_
    have hno : hasB act j = false := by simpa using h
    exact XK.weak [1, 2, 3, 4, 5, 6] rfl (by decide) (by simp) (XK.envS [(32, .int .i64 ((j : Int) + 1)), (31, .int .i64 s.devs.length), (30, .slice (some ⟨bV, oV, none⟩) s.devs.length k4), (5, .pointer (some ⟨gw, 0, none⟩)), (4, .pointer (some ⟨g2, 0, none⟩)), (2, .pointer (some ⟨g1, 0, none⟩)), (1, .slice Aa act.length ca)] (XK.round (s.devs.length - (j + 1)) (by omega) ⟨j + 1, by omega, rfl, rfl, rfl, by rw [wantN_skip hno, hwj]⟩))
   ·
    have hyes : hasB act j = true := by simpa using h
    have hnx := hnx hyes
    refine XK.skip ?_
    refine XK.norm ?_
    refine XK.seq ?_
    refine XK.seq ?_
    refine XK.region ?_
    refine xk_field (off := 1) (by kernel_rfl) rfl (by decide) ?_
    refine xk_ld rfl ?_
    refine xk_assign rfl (by decide) ?_
    refine XK.nilN ?_
    refine XK.envS [(8, .int .i64 (xd : Int)), (7, .pointer (some ⟨g7, 0, none⟩)), (32, .int .i64 j), (31, .int .i64 s.devs.length), (30, .slice (some ⟨bV, oV, none⟩) s.devs.length k4), (5, .pointer (some ⟨gw, 0, none⟩)), (4, .pointer (some ⟨g2, 0, none⟩)), (2, .pointer (some ⟨g1, 0, none⟩)), (1, .slice Aa act.length ca)] ?_
    refine XK.block ?_
    refine XK.loop (fun m e R H => ∃ (cur : Int) (rest : List Nat) (d : List Bool), m = rest.length ∧ UpsR s cur rest ∧ d.length = s.domains.length ∧ putAll rest d = putAll (ups s xd) wj.d ∧ e = [(8, .int .i64 cur), (7, .pointer (some ⟨g7, 0, none⟩)), (32, .int .i64 j), (31, .int .i64 s.devs.length), (30, .slice (some ⟨bV, oV, none⟩) s.devs.length k4), (5, .pointer (some ⟨gw, 0, none⟩)), (4, .pointer (some ⟨g2, 0, none⟩)), (2, .pointer (some ⟨g1, 0, none⟩)), (1, .slice Aa act.length ca)] ∧ R = [q, all w] ∧ H = [HP.blk g7 71 [.int .i64 (xc : Int), .int .i64 (xd : Int), .int .i64 (xr : Int), .int .u32 x.clamp, .slice Ar nr kr, .slice An nn kn], HP.blk gw 91 [.slice (some ⟨ga, 0, none⟩) s.domains.length s.domains.length, .slice (some ⟨gb, 0, none⟩) s.clocks.length s.clocks.length, .slice (some ⟨gc, 0, none⟩) s.resets.length s.resets.length], HP.blk ga 4 (boolCells d), HP.blk gb 4 (boolCells wj.c), HP.blk gc 4 (boolCells wj.l), HP.blk g2 91 [.slice none 0 0, .slice none 0 0, .slice none 0 0], HP.blk g1 34 [.slice A1 s.clocks.length k1, .slice A2 s.domains.length k2, .slice A3 s.resets.length k3, .slice (some ⟨bV, oV, none⟩) s.devs.length k4]]) (ups s xd).length ⟨_, ups s xd, wj.d, rfl, ups_R hm (by omega), hwo.d, rfl, rfl, rfl, rfl⟩ fun m e R H hI => ?_
    obtain ⟨cur, rest, d, rfl, hur, hdl, hpd, rfl, rfl, rfl⟩ := hI
    refine XK.seq ?_
    refine XK.seq ?_
    refine XK.region ?_
    refine xk_move rfl (by decide) ?_
    refine xk_neq rfl rfl (by decide) ?_
    refine XK.nilN ?_
    refine XK.if_ rfl (fun h => ?_) (fun h => ?_)
    ·
     refine XK.skip ?_
     refine XK.norm ?_
     refine XK.seq ?_
     obtain ⟨i, r, rfl⟩ : ∃ i r, rest = i :: r := by
      cases rest with
      | nil => exact absurd hur h
      | cons i r => exact ⟨i, r, rfl⟩
     obtain ⟨rfl, dm, hdm, hur⟩ := hur
     have hil := (List.getElem?_eq_some_iff.1 hdm).1
     refine XK.block ?_
     refine XK.region ?_
     refine xk_field (off := 0) (by kernel_rfl) rfl (by decide) ?_
     refine xk_ld rfl ?_
     refine xk_move rfl (by decide) ?_
     refine xk_at (i) (i) (el := 4) (sz := 1) (by kernel_rfl) (by kernel_rfl) rfl rfl (by omega) (by omega) (by omega) (by decide) ?_
     refine xk_store 2 rfl (by kernel_rfl) rfl rfl rfl (by rw [boolCells_len]; omega) ?_
     dsimp only [List.set]
     rw [boolCells_set, show d.set i true = putB d (i : Int) true by simp [putB]]
     refine XK.nilN ?_
     obtain ⟨bD, oD, rD, rfl, hzD, _, rfl, hcD⟩ := hSP.dom.rowP hdm
     refine XK.region ?_
     refine xk_field (off := 1) (by kernel_rfl) rfl (by decide) ?_
     refine xk_ld rfl ?_
     refine xk_move rfl (by decide) ?_
     refine xk_at (i) (oD + i * 3) (el := 49) (sz := 3) (by kernel_rfl) (by kernel_rfl) rfl rfl (by omega) (by omega) (by omega) (by decide) ?_
     refine xk_field (off := 0) (by kernel_rfl) rfl (by decide) ?_
     refine xk_load (by kernel_rfl) rfl (Rd.ro (p := q) (by simp) hzD (hcD 0 _ rfl)) (by decide) ?_
     refine xk_assign rfl (by decide) ?_
     refine XK.nilN ?_
     exact XK.envS [(8, .int .i64 dm.above), (7, .pointer (some ⟨g7, 0, none⟩)), (32, .int .i64 j), (31, .int .i64 s.devs.length), (30, .slice (some ⟨bV, oV, none⟩) s.devs.length k4), (5, .pointer (some ⟨gw, 0, none⟩)), (4, .pointer (some ⟨g2, 0, none⟩)), (2, .pointer (some ⟨g1, 0, none⟩)), (1, .slice Aa act.length ca)] (XK.round r.length (by simp) ⟨dm.above, r, putB d (i : Int) true, rfl, hur, by rw [putB_len]; exact hdl, by rw [← hpd]; rfl, rfl, rfl, rfl⟩)
    ·
     refine XK.exit ?_
     refine XK.norm ?_
     refine XK.seq ?_
     refine XK.seq ?_
     obtain rfl : rest = [] := by
      cases rest with
      | nil => rfl
      | cons i r => exact absurd (show cur = -1 from Classical.not_not.1 h) (by have := hur.1; omega)
     have hpd : d = putAll (ups s xd) wj.d := hpd
     refine XK.region ?_
     refine xk_ldN 4 rfl ?_
     refine xk_field (off := 0) (by kernel_rfl) rfl (by decide) ?_
     refine xk_ld rfl ?_
     refine xk_call [] (f := 55) (fi := []) (ca := []) (by kernel_rfl) rfl rfl (by decide) (by simp) (IntsOk (chainL s xc)) (fun w1 st => chain_any q s A1 A2 A3 (some ⟨bV, oV, none⟩) _ k1 _ k2 _ k3 _ k4 xc w1 hSP hm.okT (st.le (by simp)) (by omega)) ?_
     rintro _ w1 qc ⟨Ac, cc, rfl, hsc⟩ hf _ _
     have hsc := hsc.le hf
     have hcin := fun i (hi : i ∈ chainL s xc) => chainN_in s _ _ i hi
     have hcl : (chainL s xc).length ≤ s.clocks.length := chainN_len s _ _
     clear hf
     generalize hch : chainL s xc = ch at *
     refine xk_len (el := 3) (by kernel_rfl) rfl (by decide) ?_
     refine xk_move rfl (by decide) ?_
     refine XK.nilN ?_
     refine XK.envS [(60, .int .i64 0), (59, .int .i64 ch.length), (58, .slice Ac ch.length cc), (7, .pointer (some ⟨g7, 0, none⟩)), (32, .int .i64 j), (31, .int .i64 s.devs.length), (30, .slice (some ⟨bV, oV, none⟩) s.devs.length k4), (5, .pointer (some ⟨gw, 0, none⟩)), (4, .pointer (some ⟨g2, 0, none⟩)), (2, .pointer (some ⟨g1, 0, none⟩)), (1, .slice Aa act.length ca)] ?_
     refine XK.block ?_
     refine XK.loop (fun m e R H => ∃ (k : Nat), k ≤ ch.length ∧ m = ch.length - k ∧ e = [(60, .int .i64 k), (59, .int .i64 ch.length), (58, .slice Ac ch.length cc), (7, .pointer (some ⟨g7, 0, none⟩)), (32, .int .i64 j), (31, .int .i64 s.devs.length), (30, .slice (some ⟨bV, oV, none⟩) s.devs.length k4), (5, .pointer (some ⟨gw, 0, none⟩)), (4, .pointer (some ⟨g2, 0, none⟩)), (2, .pointer (some ⟨g1, 0, none⟩)), (1, .slice Aa act.length ca)] ∧ R = [qc, q, all w] ∧ H = [HP.blk g7 71 [.int .i64 (xc : Int), .int .i64 (xd : Int), .int .i64 (xr : Int), .int .u32 x.clamp, .slice Ar nr kr, .slice An nn kn], HP.blk gw 91 [.slice (some ⟨ga, 0, none⟩) s.domains.length s.domains.length, .slice (some ⟨gb, 0, none⟩) s.clocks.length s.clocks.length, .slice (some ⟨gc, 0, none⟩) s.resets.length s.resets.length], HP.blk ga 4 (boolCells d), HP.blk gb 4 (boolCells (putAll ((ch.take k).filter (swK s)) wj.c)), HP.blk gc 4 (boolCells wj.l), HP.blk g2 91 [.slice none 0 0, .slice none 0 0, .slice none 0 0], HP.blk g1 34 [.slice A1 s.clocks.length k1, .slice A2 s.domains.length k2, .slice A3 s.resets.length k3, .slice (some ⟨bV, oV, none⟩) s.devs.length k4]]) ch.length ⟨0, by omega, rfl, rfl, rfl, rfl⟩ fun m e R H hI => ?_
     obtain ⟨k, hk, rfl, rfl, rfl, rfl⟩ := hI
     refine XK.seq ?_
     refine XK.region ?_
     refine xk_lss rfl rfl (by decide) ?_
     refine XK.nilN ?_
     refine XK.seq ?_
     refine XK.if_ rfl (fun h => ?_) (fun h => ?_)
     ·
      refine XK.skip ?_
      refine XK.norm ?_
      refine XK.seq ?_
      refine XK.block ?_
      refine XK.seq ?_
      have hkl : k < ch.length := by have h' : (k : Int) < (ch.length : Int) := h; omega
      obtain ⟨ci, hci⟩ : ∃ ci, ch[k]? = some ci := ⟨_, List.getElem?_eq_getElem hkl⟩
      have hcil := hcin ci (List.mem_of_getElem? hci)
      obtain ⟨ck, hck⟩ : ∃ ck, s.clocks[ci]? = some ck := ⟨_, List.getElem?_eq_getElem hcil⟩
      obtain ⟨bI, oI, rfl, hzI, hcI⟩ := hsc.2 (by omega)
      obtain ⟨bC, oC, rC, rfl, hzC, _, hR2, hcC⟩ := hSP.clk.rowP hck
      obtain ⟨As, ns, ks, rfl, _⟩ := hR2
      have htk : (ch.take (k + 1)).filter (swK s) = (ch.take k).filter (swK s) ++ (if swK s ci then [ci] else []) := by
       rw [List.take_add_one, hci, List.filter_append]
       cases hsw : swK s ci <;> simp [hsw]
      have hswv : swK s ci = decide (ck.kind = 112 ∨ ck.kind = 103) := by unfold swK; rw [hck]
      have hcpl : (putAll ((ch.take k).filter (swK s)) wj.c).length = s.clocks.length := by rw [putAll_len]; exact hwo.c
      refine XK.region ?_
      refine xk_at (k) (oI + k) (el := 3) (sz := 1) (by kernel_rfl) (by kernel_rfl) rfl rfl (by omega) (by omega) (by omega) (by decide) ?_
      refine xk_load (by kernel_rfl) rfl (Rd.ro (p := qc) (by simp) hzI (hcI k _ (natI_get hci))) (by decide) ?_
      refine xk_assign rfl (by decide) ?_
      refine XK.nilN ?_
      refine XK.seq ?_
      refine XK.region ?_
      refine xk_field (off := 0) (by kernel_rfl) rfl (by decide) ?_
      refine xk_ld rfl ?_
      refine xk_move rfl (by decide) ?_
      refine xk_at (ci) (oC + ci * 6) (el := 64) (sz := 6) (by kernel_rfl) (by kernel_rfl) rfl rfl (by omega) (by omega) (by omega) (by decide) ?_
      refine xk_field (off := 0) (by kernel_rfl) rfl (by decide) ?_
      refine xk_load (by kernel_rfl) rfl (Rd.ro (p := q) (by simp) hzC (hcC 0 _ rfl)) (by decide) ?_
      refine xk_assign rfl (by decide) ?_
      refine XK.nilN ?_
      refine XK.cutB 75 (ck.kind = 112 ∨ ck.kind = 103) ?_ ?_
      ·skip
       refine XK.region ?_
       refine xk_move rfl (by decide) ?_
       refine xk_eql rfl rfl (by decide) ?_
       refine xk_move rfl (by decide) ?_
       refine xk_split (t := 72) rfl (fun hg => ?_) (fun hg => ?_)
       ·
        refine xk_guardF rfl rfl rfl (by decide) ?_
        refine xk_guardF rfl rfl rfl (by decide) ?_
        (first | refine xk_pickT rfl rfl (by decide) ?_ | refine xk_pickF rfl rfl (by decide) ?_)
        refine XK.nilN ?_
        exact XK.meetBS
       ·
        refine xk_guardT rfl rfl ?_; refine xk_move rfl (by decide) ?_
        refine xk_guardT rfl rfl ?_; refine xk_eql rfl rfl (by decide) ?_
        (first | refine xk_pickT rfl rfl (by decide) ?_ | refine xk_pickF rfl rfl (by decide) ?_)
        refine XK.nilN ?_
        exact XK.meetBS
      refine XK.if_ rfl (fun hkd => ?_) (fun hkd => ?_)
      ·
       refine XK.region ?_
       refine xk_field (off := 1) (by kernel_rfl) rfl (by decide) ?_
       refine xk_ld rfl ?_
       refine xk_move rfl (by decide) ?_
       refine xk_at (ci) (ci) (el := 4) (sz := 1) (by kernel_rfl) (by kernel_rfl) rfl rfl (by omega) (by omega) (by omega) (by decide) ?_
       refine xk_store 3 rfl (by kernel_rfl) rfl rfl rfl (by rw [boolCells_len]; omega) ?_
       dsimp only [List.set]
       rw [boolCells_set, show (putAll ((ch.take k).filter (swK s)) wj.c).set ci true = putAll ((ch.take (k + 1)).filter (swK s)) wj.c by rw [htk, hswv, decide_eq_true hkd]; simp [putAll, putB, List.foldl_append]]
       refine XK.nilN ?_
       refine XK.region ?_
       refine xk_add rfl rfl (wrap_in (by omega)) (by decide) ?_
       refine xk_move rfl (by decide) ?_
       refine XK.nilN ?_
       exact XK.envS [(60, .int .i64 ((k : Int) + 1)), (59, .int .i64 ch.length), (58, .slice (some ⟨bI, oI, none⟩) ch.length cc), (7, .pointer (some ⟨g7, 0, none⟩)), (32, .int .i64 j), (31, .int .i64 s.devs.length), (30, .slice (some ⟨bV, oV, none⟩) s.devs.length k4), (5, .pointer (some ⟨gw, 0, none⟩)), (4, .pointer (some ⟨g2, 0, none⟩)), (2, .pointer (some ⟨g1, 0, none⟩)), (1, .slice Aa act.length ca)] (XK.round (ch.length - (k + 1)) (by omega) ⟨k + 1, by omega, rfl, rfl, rfl, rfl⟩)
      ·
       refine XK.skip ?_
       refine XK.norm ?_
       refine XK.region ?_
       refine xk_add rfl rfl (wrap_in (by omega)) (by decide) ?_
       refine xk_move rfl (by decide) ?_
       refine XK.nilN ?_
       exact XK.envS [(60, .int .i64 ((k : Int) + 1)), (59, .int .i64 ch.length), (58, .slice (some ⟨bI, oI, none⟩) ch.length cc), (7, .pointer (some ⟨g7, 0, none⟩)), (32, .int .i64 j), (31, .int .i64 s.devs.length), (30, .slice (some ⟨bV, oV, none⟩) s.devs.length k4), (5, .pointer (some ⟨gw, 0, none⟩)), (4, .pointer (some ⟨g2, 0, none⟩)), (2, .pointer (some ⟨g1, 0, none⟩)), (1, .slice Aa act.length ca)] (XK.round (ch.length - (k + 1)) (by omega) ⟨k + 1, by omega, rfl, rfl, rfl, by rw [htk, hswv, decide_eq_false hkd]; simp⟩)
     ·
      refine XK.exit ?_
      refine XK.norm ?_
      have hke : k = ch.length := by have h' : ¬ (k : Int) < (ch.length : Int) := h; omega
      rw [hke, List.take_length]
      have hll := hwo.l
      refine XK.region ?_
      refine xk_field (off := 2) (by kernel_rfl) rfl (by decide) ?_
      refine xk_ld rfl ?_
      refine xk_field (off := 2) (by kernel_rfl) rfl (by decide) ?_
      refine xk_ld rfl ?_
      refine xk_at (xr) (xr) (el := 4) (sz := 1) (by kernel_rfl) (by kernel_rfl) rfl rfl (by omega) (by omega) (by omega) (by decide) ?_
      refine xk_store 4 rfl (by kernel_rfl) rfl rfl rfl (by rw [boolCells_len]; omega) ?_
      dsimp only [List.set]
      rw [boolCells_set, show wj.l.set xr true = putB wj.l (xr : Int) true by simp [putB]]
      refine XK.nilN ?_
      refine XK.region ?_
      refine xk_add rfl rfl (wrap_in (by omega)) (by decide) ?_
      refine xk_move rfl (by decide) ?_
      refine XK.nilN ?_
      exact XK.weak [1, 2, 3, 4, 5, 6] rfl (by decide) (R' := [q, all w]) (by simp) (XK.envS [(32, .int .i64 ((j : Int) + 1)), (31, .int .i64 s.devs.length), (30, .slice (some ⟨bV, oV, none⟩) s.devs.length k4), (5, .pointer (some ⟨gw, 0, none⟩)), (4, .pointer (some ⟨g2, 0, none⟩)), (2, .pointer (some ⟨g1, 0, none⟩)), (1, .slice Aa act.length ca)] (XK.round (s.devs.length - (j + 1)) (by omega) ⟨j + 1, by omega, rfl, rfl, rfl, by rw [hnx, hpd]⟩))
  ·
   refine XK.exit ?_
   refine XK.norm ?_
   refine XK.seq ?_
   refine XK.region ?_
   refine xk_ldN 3 rfl ?_
   refine xk_stN rfl rfl ?_; simp only [putN, Value.cells, List.set, List.take, List.drop, List.nil_append, List.append_nil, List.length_cons, List.length_nil, List.cons_append, Nat.reduceAdd]
   refine XK.nilN ?_
   refine XK.ret ?_
   refine XK.norm ?_
   have hje : j = s.devs.length := by have h' : ¬ (j : Int) < (s.devs.length : Int) := h; omega
   have hwo := wantN_of s act j
   have hww : wants s act = wantN s act j := by rw [hje]; rfl
   generalize wantN s act j = wj at *
   refine XK.weak [1, 2, 3, 4] rfl (by decide) (R' := [q, all w]) (by simp) ?_
   refine XK.three ?_
   refine XK.still [] [] [0, 1] (by simp) rfl (by decide) (by decide) fun qf _ _ hfr => ?_
   exact XK.retC rfl (by kernel_rfl) rfl rfl (RdN.whole 1 rfl) fun w1 st => ⟨⟨_, _, ⟨w1, qf.Z⟩, rfl, rfl, by
    rw [hww]
    exact ⟨ga, gb, gc, _, by rw [hwo.d, hwo.c, hwo.l], rfl⟩, st.newR (by simp) (by simp) (hfr (by simp) (by simp))⟩, st.below (by simp)⟩
end
section
set_option maxHeartbeats 4000000
set_option maxRecDepth 20000
section
variable {N : Frm} {w0 : World} {e : Env} {R : List Piece} {H : List HP} {K : Act → World → Prop} {Φ : Piece → Prop} {hm : ∀ p q : Piece, p.Le q → Φ p → Φ q} {sz n b off : Nat} {A : Option Addr} {xs : List Value}
theorem Rd.pic (i : Nat) (hi : H[i]? = some (HP.pic Φ hm)) (hΦ : ∀ p, Φ p → SlS p sz A n xs) (hA : A = some ⟨b, off, none⟩) (hn : 0 < n) {j : Nat} {v : Value} (hv : xs[j]? = some v) : Rd w0 R H b (off + j) v := fun w st => by
 obtain ⟨b', off', hA', _, hc⟩ := (hΦ _ (st.pic i hi)).2 hn
 cases hA.symm.trans hA'
 exact hc j v hv
end
section
variable (g h f : Nat) (s : Soc) (z : RpS) (w : World) (F : Nat → Prop)
end
end
section
set_option maxHeartbeats 4000000
set_option maxRecDepth 20000
theorem Rd.rpm {w0 : World} {R : List Piece} {H : List HP} {g h f : Nat} {L : RpL} {s : Soc} {z : RpS} (i : Nat) {o : Nat} {v : Value} (hi : H[i]? = some (RpmH g h f L s z)) (hv : (rpC h f L s z)[o]? = some v) : Rd w0 R H g o v := fun w st => by
 have := (st.rpmR i hi).r0.at_ hv
 rw [Nat.zero_add] at this
 exact this.2
def T3 (j : Nat) : Prop := j = 0 ∨ j = 1 ∨ j = 2
theorem rpC_at {h f : Nat} {L : RpL} {s : Soc} {z : RpS} {j k : Nat} {v : Value} (hj : T3 j) (hv : (tkC (z.tk j))[k]? = some v) : (rpC h f L s z)[10 + 13 * j + k]? = some v := by
 have hk : k < 13 := by
  have := (List.getElem?_eq_some_iff.1 hv).1
  simpa [tkC] using this
 have hk2 : k = 0 ∨ k = 1 ∨ k = 2 ∨ k = 3 ∨ k = 4 ∨ k = 5 ∨ k = 6 ∨ k = 7 ∨ k = 8 ∨ k = 9 ∨ k = 10 ∨ k = 11 ∨ k = 12 := by omega
 rcases hj with rfl | rfl | rfl <;> rcases hk2 with rfl | rfl | rfl | rfl | rfl | rfl | rfl | rfl | rfl | rfl | rfl | rfl | rfl <;> exact hv
theorem rpC_len {h f : Nat} {L : RpL} {s : Soc} {z : RpS} : (rpC h f L s z).length = 55 := rfl
section
variable (g h f : Nat) (s : Soc) (z : RpS) (w : World) (F : Nat → Prop)
end
end
section
set_option maxHeartbeats 4000000
set_option maxRecDepth 20000
def DevW (d : Dev) (vs : List Value) : Prop := ∃ A k A' n' k', vs = [.int .i64 d.clock, .int .i64 d.domain, .int .i64 d.reset, .int .u32 d.clamp, .slice A d.regs.length k, .slice A' n' k']
structure DevQ (s : Soc) (rows : List (List Value)) : Prop where
 row : ∀ (i : Nat) (d : Dev), s.devs[i]? = some d → ∃ r, rows[i]? = some r ∧ DevW d r
 len : ∀ r ∈ rows, r.length = 6
def SoD (L : RpL) (s : Soc) (rows : List (List Value)) (p : Piece) : Prop := SoR L s p ∧ SlS p 6 L.a4.1 s.devs.length rows.flatten
theorem SoD.le {L : RpL} {s : Soc} {rows : List (List Value)} (p q : Piece) (hl : p.Le q) (h : SoD L s rows p) : SoD L s rows q := ⟨SoR.le p q hl h.1, h.2.le hl⟩
section
variable {N : Frm} {w0 : World} {e : Env} {R : List Piece} {H : List HP} {K : Act → World → Prop} {L : RpL} {s : Soc}
theorem Rd.dev (i : Nat) {rows : List (List Value)} {j k b off : Nat} {r : List Value} {v : Value} {hm : ∀ p q : Piece, p.Le q → SoD L s rows p → SoD L s rows q} (hi : H[i]? = some (HP.pic (SoD L s rows) hm)) (hq : DevQ s rows) (hA : L.a4.1 = some ⟨b, off, none⟩) (hr : rows[j]? = some r) (hj : j < s.devs.length) (hv : r[k]? = some v) : Rd w0 R H b (off + j * 6 + k) v := by
 have hk : k < 6 := by
  have h1 := hq.len r (List.mem_of_getElem? hr)
  have := (List.getElem?_eq_some_iff.1 hv).1
  omega
 have hf := flat_get (fun x => x) 6 rows hq.len j k r hr hk
 have := Rd.pic (w0 := w0) (R := R) (xs := rows.flatten) (j := j * 6 + k) (v := v) i hi (fun p h => h.2) hA (by omega) (by simpa [hv] using hf)
 rwa [← Nat.add_assoc] at this
end
section
variable (g f : Nat) (hL : HL) (s : Soc) (z : RpS) (x : HwS) (w : World) (F : Nat → Prop)
end
end
section
set_option maxHeartbeats 4000000
set_option maxRecDepth 20000
def onZ (z : RpS) (j : Nat) : RpS := { z.setT j { z.tk j with st := 2 } with hol := (j : Int) }
end
section
set_option maxHeartbeats 4000000
set_option maxRecDepth 20000
theorem leaves_tmps {P : Program} {fn : Func} {R : Ending → World → Prop} (hr : fn.results = #[]) {t1 t2 : Array Value} : ∀ (ds : List Deferred) (u : FrameMode) (w : World), Leaves P fn t1 R ds u w → Leaves P fn t2 R ds u w
 | [], .returning, w, h => by
  obtain ⟨v, h1, h2⟩ := h
  rw [results_none hr] at h1
  cases h1
  exact ⟨_, results_none hr _ _ _, h2⟩
 | [], .panicking _, _, h => h
 | [], .run, _, h => h
 | d :: ds, u, w, h => by
  obtain ⟨h1, fv, cap, f, args, h2, h3, h4⟩ := h
  refine ⟨h1, fv, cap, f, args, h2, h3, h4.mono fun y u' w' hy => ?_⟩
  cases y with
  | returned v => exact leaves_tmps hr ds _ _ hy
  | panicked c => exact leaves_tmps hr ds _ _ hy
  | outgrown => exact hy
theorem putD {P : Program} {fn : Func} {R : Ending → World → Prop} {c : List PanicEntry} {a : Act} {d : Option Nat} {v : Value} {w : World} (hr : fn.results = #[]) (h : bodyPostD P fn R (.panic c) (a.put d v) w) : bodyPostD P fn R (.panic c) a w := by
 have hd : (a.put d v).defers = a.defers := by cases d <;> rfl
 have h2 : Leaves P fn (a.put d v).tmps R (a.put d v).defers (.panicking c) w := h
 rw [hd] at h2
 exact leaves_tmps hr _ _ _ h2
section
variable (f : Nat) (hL : HL) (s : Soc) (z : FmS) (x : HwS) (w : World)
end
end
section
set_option maxHeartbeats 4000000
set_option maxRecDepth 20000
theorem RdN.ev {w0 : World} {R : List Piece} {H : List HP} {q : Piece} {A : Option Addr} {es : List (Int × Nat)} {j : Nat} {p : Int × Nat} (hq : q ∈ R) (hs : SlS q 2 A es.length (es.flatMap evC)) (hj : es[j]? = some p) : ∃ b off, A = some ⟨b, off, none⟩ ∧ RdN w0 R H b (off + j * 2) (evC p) := by
 have hlt := (List.getElem?_eq_some_iff.1 hj).1
 obtain ⟨b, off, hA, hz, hc⟩ := SlS.rowP (rows := es.map evC) (sz := 2) (k := j) (r := evC p) (n := es.length) (by rw [← List.flatMap_def]; exact hs) (fun r hr => by
  obtain ⟨x, _, rfl⟩ := List.mem_map.1 hr
  rfl) (by rw [List.getElem?_map, hj]; rfl) hlt
 exact ⟨b, off, hA, .of fun k v hv => Rd.ro hq hz (hc k v hv)⟩
end
section
set_option maxHeartbeats 4000000
set_option maxRecDepth 20000
theorem SlS.dropQ {p : Piece} {sz n k : Nat} {A A' : Option Addr} {xs : List Value} (h : SlS p sz A n xs) (hk : k ≤ n) (hA : k < n → ∀ b off, A = some ⟨b, off, none⟩ → A' = some ⟨b, off + k * sz, none⟩) : SlS p sz A' (n - k) (xs.drop (k * sz)) := by
 refine ⟨by rw [List.length_drop, h.1, Nat.sub_mul], fun h0 => ?_⟩
 obtain ⟨b, off, hA2, hz, hc⟩ := h.2 (by omega)
 refine ⟨b, off + k * sz, hA (by omega) b off hA2, hz, fun j u hu => ?_⟩
 rw [List.getElem?_drop] at hu
 rw [Nat.add_assoc]
 exact hc _ u hu
def dropA (L : RpL) : RpL := { L with st := (if L.st.2 = 1 then L.st.1 else L.st.1.map (·.add (1 * 4)), L.st.2 - 1) }
theorem SpR.tail {L : RpL} {p : Stp} {l tl : List Stp} {q : Piece} (hl : l = p :: tl) (h : SpR L l q) : SpR (dropA L) l.tail q := by
 subst hl
 obtain ⟨h1, h2⟩ := h
 simp only [List.length_cons] at h2
 refine ⟨h1.dropQ (k := 1) (by simp) fun hlt b off hA => ?_, by simp only [List.tail_cons, dropA]; omega⟩
 simp only [List.length_cons] at hlt
 unfold dropA
 dsimp only
 rw [if_neg (by omega), hA]
 rfl
section
variable (g h f : Nat) (s : Soc) (z : RpS) (y : FmS) (w : World) (F : Nat → Prop)
end
end
section
set_option maxHeartbeats 4000000
set_option maxRecDepth 20000
theorem rpRec_idle (w : World) : CallsD Tryz.prog 25 #[] .returning w fun e u' w' => e = .returned (.tuple #[]) ∧ u' = .returning ∧ w' = w := by
 refine callsD_of_wpS Tryz.func25 rfl fun c₀ cs hu => ?_
 apply wpS_region
 simp [wpOpsS, go_sem, recoverD, hu, Tryz.ntmps25, Exit.thenS]
 cases c₀
 simp_all [bodyPostS, results, Tryz.results25]
end
section
set_option maxHeartbeats 4000000
set_option maxRecDepth 20000
section
variable (s : Soc) (A1 A2 A3 A4 : Option Addr) (n1 k1 n2 k2 n3 k3 n4 k4 : Nat) (w : World)
def CntOk (s : Soc) (v : Value) (hs : List HP) (_ : Piece) : Prop := ∃ gc gm A k, v = .tuple #[.pointer (some ⟨gc, 0, none⟩), .int .i64 0] ∧ hs = [CnN gc gm A k (needsG s) ⟨[], false⟩]
theorem cntNew_ok (hm : s.made) (hW : SocW w s A1 n1 A2 n2 A3 n3 A4 n4) :
  Calls Tryz.prog 20 #[.agg #[.slice A1 n1 k1, .slice A2 n2 k2, .slice A3 n3 k3, .slice A4 n4 k4]] w (fun y w' => (∃ v hs q, y = .returned v ∧ q.w = w' ∧ CntOk s v hs q ∧ New w hs q) ∧ Below w.heap.size w w') := by
 obtain rfl := hW.len1
 obtain rfl := hW.len2
 obtain rfl := hW.len3
 obtain rfl := hW.len4
 refine XK.enter (vs := [.agg #[.slice A1 s.clocks.length k1, .slice A2 s.domains.length k2, .slice A3 s.resets.length k3, .slice A4 s.devs.length k4]]) Tryz.func20 rfl Tryz.ntmps20 (by simp) ?_
 refine XK.go ?_
 refine xk_box rfl (by decide) fun g1 => ?_
 dsimp only [Value.cells]
 refine XK.go ?_
 refine kcall (fun w1 t => checkS_call s A1 A2 A3 A4 _ k1 _ k2 _ k3 _ k4 w1 (hW.le (t.started (by simp))) (made_check hm)) ?_
 refine XK.go ?_
 refine xk_call [] (f := 47) (fi := []) (ca := []) (by kernel_rfl) rfl rfl (by decide) (by simp) (GrOk (needsG s)) (fun w1 t => needs_any s A1 A2 A3 A4 _ k1 _ k2 _ k3 _ k4 w1 (hW.le (t.started (by simp)))) ?_
 rintro _ w1 q1 ⟨Ag, cg, rfl, hgr⟩ hf _ hfr
 have hgr := hgr.le hf
 refine XK.ownP (Φ := NdP Ag (needsG s)) (hm := NdP.le) (hfr (by simp)) (by simp [all]) hgr ?_
 refine xk_makeMap (by decide) fun gm => ?_
 refine xk_buildS (zs := [.slice none 0 0, .map none, .bool false]) (L := [(0, 1), (1, 1), (2, 1)]) (zeroB_of (by kernel_rfl)) (by kernel_rfl) rfl (by simp [fillL, setN, Value.cells]; rfl) (by decide) ?_
 refine xk_box rfl (by decide) fun g2 => ?_
 dsimp only [Value.cells]
 refine XK.go ?_
 refine XK.weak [0, 1, 2] rfl (by decide) (R' := [all w]) (by simp) ?_
 refine XK.pair ?_
 refine XK.pair ?_
 refine XK.still [] [] [0] (by simp) rfl (by decide) (by decide) fun q _ _ hfr => ?_
 exact XK.ret2 rfl rfl rfl fun w1 t => ⟨⟨_, _, ⟨w1, q.Z⟩, rfl, rfl, ⟨g2, gm, Ag, cg, rfl, rfl⟩, t.newR (by simp) (by simp) (hfr (by simp) (by simp))⟩, t.below (by simp)⟩
def rpN (s : Soc) : RpS := { rp0 s with wn := wants s [] }
def RpmNk (h f : Nat) (s : Soc) (v : Value) (hs : List HP) (_ : Piece) : Prop := ∃ g, v = .tuple #[.pointer (some ⟨g, 0, none⟩), .int .i64 0] ∧ hs = [RpmX g h f s (rpN s)]
theorem rpmNew_ok (h f : Nat) (hm : s.made) (hW : SocW w s A1 n1 A2 n2 A3 n3 A4 n4) :
  Calls Tryz.prog 7 #[.pointer (some ⟨h, 0, none⟩), .pointer (some ⟨f, 0, none⟩), .agg #[.slice A1 n1 k1, .slice A2 n2 k2, .slice A3 n3 k3, .slice A4 n4 k4]] w (fun y w' => (∃ v hs q, y = .returned v ∧ q.w = w' ∧ RpmNk h f s v hs q ∧ New w hs q) ∧ Below w.heap.size w w') := by
 obtain rfl := hW.len1
 obtain rfl := hW.len2
 obtain rfl := hW.len3
 obtain rfl := hW.len4
 refine XK.enter (vs := [.pointer (some ⟨h, 0, none⟩), .pointer (some ⟨f, 0, none⟩), .agg #[.slice A1 s.clocks.length k1, .slice A2 s.domains.length k2, .slice A3 s.resets.length k3, .slice A4 s.devs.length k4]]) Tryz.func7 rfl Tryz.ntmps7 (by simp) ?_
 refine XK.go ?_
 refine xk_box rfl (by decide) fun g1 => ?_
 dsimp only [Value.cells]
 refine XK.go ?_
 refine xk_callN (f := 20) (fi := []) (ca := []) (by kernel_rfl) rfl rfl (by decide) (CntOk s) (fun w1 t => cntNew_ok s A1 A2 A3 A4 _ k1 _ k2 _ k3 _ k4 w1 hm (hW.le (t.started (by simp)))) ?_
 rintro _ _ q0 ⟨gc, gm, Ag, cg, rfl, rfl⟩ _
 dsimp only [List.cons_append, List.nil_append]
 refine XK.weak [0, 1] rfl (by decide) (R' := [all w]) (by simp) ?_
 refine XK.go ?_
 refine xk_call [] (f := 21) (fi := []) (ca := []) (by kernel_rfl) rfl rfl (by decide) (by simp) (fun v w w' => CopyOk s v w w') (fun w1 t => copy_any s A1 A2 A3 A4 _ k1 _ k2 _ k3 _ k4 w1 (hW.le (t.started (by simp))) (fun d hd => by
  obtain ⟨j, hj⟩ := List.getElem?_of_mem hd
  have := (hm.devs j d hj).2.2.2.2.2.2.2.2.1
  omega)) ?_
 rintro _ w1 q1 ⟨cs, rfl, hcs⟩ hq1 _ hF1
 have hF1 := hF1 (by simp)
 obtain ⟨B1, m1, j1, B2, m2, j2, B3, m3, j3, B4, m4, j4, rfl, hsp⟩ := SocR.P hcs
 have hsp := hsp.le hq1
 obtain ⟨rfl, rfl, rfl, rfl⟩ := hsp.len
 refine XK.ownP (Φ := SoR ⟨(B1, j1), (B2, j2), (B3, j3), (B4, j4), gc, gm, (Ag, cg), (none, 0), (none, 0), (none, 0), (none, 0)⟩ s) (hm := SoR.le) hF1 (by simp [all]) hsp ?_
 refine XK.go ?_
 refine xk_buildS (zs := [.pointer none, .pointer none, .slice none 0 0, .slice none 0 0, .slice none 0 0, .slice none 0 0, .pointer none, .slice none 0 0, .slice none 0 0, .slice none 0 0, .int .i64 0, .int .u8 0, .int .i64 0, .int .i64 0, .int .u32 0, .int .i64 0, .int .u32 0, .int .i64 0, .int .i64 0, .int .i64 0, .int .i64 0, .int .i64 0, .int .i64 0, .int .i64 0, .int .u8 0, .int .i64 0, .int .i64 0, .int .u32 0, .int .i64 0, .int .u32 0, .int .i64 0, .int .i64 0, .int .i64 0, .int .i64 0, .int .i64 0, .int .i64 0, .int .i64 0, .int .u8 0, .int .i64 0, .int .i64 0, .int .u32 0, .int .i64 0, .int .u32 0, .int .i64 0, .int .i64 0, .int .i64 0, .int .i64 0, .int .i64 0, .int .i64 0, .int .i64 0, .slice none 0 0, .bool false, .bool false, .int .i64 0, .int .i64 0]) (L := [(0, 1), (1, 1), (2, 4), (6, 1), (7, 3), (10, 39), (49, 1), (50, 1), (51, 1), (52, 1), (53, 1), (54, 1)]) (zeroB_of (by kernel_rfl)) (by kernel_rfl) rfl (by simp [fillL, setN, Value.cells]; rfl) (by decide) ?_
 refine xk_box rfl (by decide) fun g => ?_
 dsimp only [Value.cells]
 refine XK.go ?_
 refine kd (does_ldA rfl (RdN.mid (vs := [_, _, _, _]) 0 rfl rfl)) ?_
 refine xk_callN (f := 22) (fi := []) (ca := []) (by kernel_rfl) rfl rfl (by decide) (WishN (wants s [])) (fun w1 t => wantsN_any (all w1) s B1 B2 B3 B4 _ j1 _ j2 _ j3 _ j4 none 0 [] w1 (t.pic 1 rfl) hm (Piece.Le.refl _) (SlS.nil _ _)) ?_
 rintro _ _ q2 ⟨ga, gb, gd, px, rfl, rfl⟩ _
 dsimp only [List.cons_append, List.nil_append]
 refine XK.go ?_
 refine kstN 2 rfl ?_
 dsimp only [List.set]
 refine XK.go ?_
 obtain ⟨L', hL'⟩ : ∃ L' : RpL, L' = ⟨(B1, j1), (B2, j2), (B3, j3), (B4, j4), gc, gm, (Ag, cg), (some ⟨ga, 0, none⟩, (wants s []).d.length), (some ⟨gb, 0, none⟩, (wants s []).c.length), (some ⟨gd, 0, none⟩, (wants s []).l.length), (none, 0)⟩ := ⟨_, rfl⟩
 refine XK.reuse (q := HP.pic (WnR L' (wants s [])) (WnR.le (L := L') (x := wants s []))) 0 rfl (fun F w hs => ?_) ?_
 ·obtain ⟨G, k1, k2, _⟩ := hs
  subst hL'
  exact ⟨SlS.of_blk (c := 0) (k1 0 _ rfl) (fun b hb => k2 0 b hb) (by simp [boolCells]), SlS.of_blk (c := 0) (k1 1 _ rfl) (fun b hb => k2 1 b hb) (by simp [boolCells]), SlS.of_blk (c := 0) (k1 2 _ rfl) (fun b hb => k2 2 b hb) (by simp [boolCells])⟩
 dsimp only [List.set]
 refine XK.chunk0 (p := HP.pic (SpR L' []) (SpR.le (L := L') (l := []))) (fun w => by subst hL'; exact ⟨SlS.nil _ _, Nat.le_refl _⟩) ?_
 refine XK.take 5 0 rfl rfl ?_
 dsimp only [List.set]
 refine XK.take 6 1 rfl rfl ?_
 dsimp only [List.set]
 refine XK.weak [5, 6, 3, 1, 0, 2] rfl (by decide) (R' := [all w]) (by simp) ?_
 refine XK.pair ?_
 refine XK.more ?_
 refine XK.more ?_
 refine XK.more ?_
 refine XK.more ?_
 refine XK.toEx 0 (f := fun L : RpL => RpmH g h f L s (rpN s)) L' (by subst hL'; rfl) ?_
 dsimp only [List.set]
 refine XK.still [] [] [0] (by simp) rfl (by decide) (by decide) fun q _ _ hfr => ?_
 exact XK.ret2 rfl rfl rfl fun w1 t => ⟨⟨_, _, ⟨w1, q.Z⟩, rfl, rfl, ⟨g, rfl, rfl⟩, t.newR (by simp) (by simp) (hfr (by simp) (by simp))⟩, t.below (by simp)⟩
end
end
section
set_option maxHeartbeats 4000000
set_option maxRecDepth 20000
def PtrV (v : Value) (_ _ : World) : Prop := ∃ p : Option Addr, v = .pointer p
def PtrE (v : Value) (_ _ : World) : Prop := ∃ (p : Option Addr) (e : Int), v = .tuple #[.pointer p, .int .i64 e]
theorem ref10New_any (w : World) : Calls Tryz.prog 41 #[] w (fun y w' => (∃ v, y = .returned v ∧ PtrV v w w') ∧ Below w.heap.size w w') := by
 refine XK.enter (vs := []) Tryz.func41 rfl Tryz.ntmps41 (by simp) ?_
 refine XK.go ?_
 refine xk_buildS (zs := [.int .u8 0, .int .i64 0]) (L := [(0, 1), (1, 1)]) (zeroB_of (by kernel_rfl)) (by kernel_rfl) rfl (by simp [fillL, setN, Value.cells]; rfl) (by decide) ?_
 refine xk_box rfl (by decide) fun g1 => ?_
 refine XK.go ?_
 exact XK.ret1 rfl rfl fun w1 t => ⟨⟨_, rfl, ⟨_, rfl⟩⟩, t.below (by simp)⟩
theorem ref11New_any (A : Option Addr) (n c : Nat) (zs : List Int) (w : World) (hs : SlS (all w) 1 A n (intCells zs)) (hn : n = zs.length) (hn2 : n ≤ 1000) : Calls Tryz.prog 42 #[.slice A n c] w (fun y w' => (∃ v, y = .returned v ∧ PtrE v w w') ∧ Below w.heap.size w w') := by
 subst hn
 refine XK.enter (vs := [.slice A zs.length c]) Tryz.func42 rfl Tryz.ntmps42 (by simp) ?_
 refine XK.go ?_
 refine XK.if_ rfl (fun h6 => ?_) (fun h6 => ?_)
 ·refine XK.go ?_
  exact XK.ret2 rfl rfl rfl fun w1 t => ⟨⟨_, rfl, ⟨_, _, rfl⟩⟩, t.below (by simp)⟩
 ·refine XK.go ?_
  refine XK.envS [(4, .int .i64 0), (3, .int .i64 0), (2, .pointer none), (0, .slice A zs.length c)] ?_
  refine XK.loop (fun m e R H => ∃ i : Nat, i ≤ zs.length ∧ m = zs.length - i ∧ e = [(4, .int .i64 i), (3, .int .i64 0), (2, .pointer none), (0, .slice A zs.length c)] ∧ R = [all w] ∧ H = []) zs.length ⟨0, by omega, rfl, rfl, rfl, rfl⟩ fun m e R H hI => ?_
  obtain ⟨i, hi, rfl, rfl, rfl, rfl⟩ := hI
  refine XK.go ?_
  refine XK.if_ rfl (fun hlt => ?_) (fun hge => ?_)
  ·have hlt : i < zs.length := by omega
   obtain ⟨x, hx⟩ := get_some hlt
   obtain ⟨b, off, rfl, hr⟩ := SlS.int hs (by omega)
   have k1 := hr i x hx
   refine XK.go ?_
   refine kd (dat i (off + i)) ?_
   refine XK.go ?_
   refine xk_split (t := 19) rfl (fun h0 => ?_) (fun h0 => ?_)
   ·refine XK.go ?_
    exact XK.ret2 rfl rfl rfl fun w1 t => ⟨⟨_, rfl, ⟨_, _, rfl⟩⟩, t.below (by simp)⟩
   ·refine XK.go ?_
    refine kd (dat i (off + i)) ?_
    refine XK.go ?_
    refine XK.if_ rfl (fun h8 => ?_) (fun h8 => ?_)
    ·refine XK.go ?_
     exact XK.ret2 rfl rfl rfl fun w1 t => ⟨⟨_, rfl, ⟨_, _, rfl⟩⟩, t.below (by simp)⟩
    ·refine XK.go ?_
     refine XK.envS [(4, .int .i64 (i + 1 : Nat)), (3, .int .i64 0), (2, .pointer none), (0, .slice (some ⟨b, off, none⟩) zs.length c)] ?_
     exact XK.round (zs.length - (i + 1)) (by omega) ⟨i + 1, hlt, rfl, rfl, rfl, rfl⟩
  ·refine XK.go ?_
   refine xk_slice0 (el := 3) (sz := 1) (by kernel_rfl) (by kernel_rfl) (by decide) fun g => ?_
   refine XK.asOwn 0 1 0 rfl rfl (by omega) ?_
   dsimp only [List.set]
   refine XK.go ?_
   refine xk_appendT 0 1 8 zs.length (n' := zs.length) (el := 3) (by kernel_rfl) (by kernel_rfl) (by decide) rfl rfl rfl (sl_ro (by simp) hs) (fun v hv => by simp [intCells] at hv; obtain ⟨_, _, rfl⟩ := hv; rfl) (by omega) (by omega) (by omega) (by decide) fun A' k' => ?_
   dsimp only [List.set, List.nil_append]
   refine xk_buildS (zs := [.slice none 0 0, .int .i64 0, .slice none 0 0]) (L := [(0, 1), (1, 1), (2, 1)]) (zeroB_of (by kernel_rfl)) (by kernel_rfl) rfl (by simp [fillL, setN, Value.cells]; rfl) (by decide) ?_
   refine xk_box rfl (by decide) fun g1 => ?_
   refine XK.go ?_
   exact XK.ret2 rfl rfl rfl fun w1 t => ⟨⟨_, rfl, ⟨_, _, rfl⟩⟩, t.below (by simp)⟩
end
section
set_option maxHeartbeats 4000000
set_option maxRecDepth 20000
section
variable (s : Soc) (A1 A2 A3 A4 : Option Addr) (n1 k1 n2 k2 n3 k3 n4 k4 : Nat) (w : World) (hW : SocW w s A1 n1 A2 n2 A3 n3 A4 n4) (hm : s.made)
include hW hm
theorem ref12New_any : Calls Tryz.prog 17 #[.agg #[.slice A1 n1 k1, .slice A2 n2 k2, .slice A3 n3 k3, .slice A4 n4 k4]] w (fun y w' => (∃ v, y = .returned v ∧ PtrE' v) ∧ Below w.heap.size w w') := by
 have hnv := hm.nv
 obtain rfl := hW.len4
 refine XK.enter (vs := [.agg #[.slice A1 n1 k1, .slice A2 n2 k2, .slice A3 n3 k3, .slice A4 s.devs.length k4]]) Tryz.func17 rfl Tryz.ntmps17 (by simp) ?_
 refine XK.gw ?_
 refine kbx fun g1 => ?_
 refine XK.gw ?_
 refine xk_callV (f := 37) (fi := []) (ca := []) (by kernel_rfl) rfl rfl (by decide) PtrE' (fun w1 t => ref6New_any s A1 A2 A3 A4 _ k1 _ k2 _ k3 _ k4 w1 (hW.le (t.started (by simp))) hm) fun v hv => ?_
 obtain ⟨p6, e6, rfl⟩ := hv
 refine XK.gw ?_
 refine XK.if_ rfl (fun h6 => ?_) (fun h6 => ?_)
 ·refine XK.gw ?_
  exact XK.ret2 rfl rfl rfl fun w1 t => ⟨⟨_, rfl, ⟨_, _, rfl⟩⟩, t.below (by simp)⟩
 refine XK.gw ?_
 refine xk_callV (f := 38) (fi := []) (ca := []) (by kernel_rfl) rfl rfl (by decide) PtrE' (fun w1 t => ref7New_any s A1 A2 A3 A4 _ k1 _ k2 _ k3 _ k4 w1 (hW.le (t.started (by simp))) hm) fun v hv => ?_
 obtain ⟨p7, e7, rfl⟩ := hv
 refine XK.gw ?_
 refine xk_callV (f := 39) (fi := []) (ca := []) (by kernel_rfl) rfl rfl (by decide) PtrE' (fun w1 t => ref8New_any s A1 A2 A3 A4 _ k1 _ k2 _ k3 _ k4 w1 (hW.le (t.started (by simp))) hm) fun v hv => ?_
 obtain ⟨p8, e8, rfl⟩ := hv
 refine XK.gw ?_
 refine kbx fun g2 => ?_
 refine XK.gw ?_
 refine XK.nilrow 71 6 ?_
 refine XK.nilrow 154 1 ?_
 refine XK.nilrow 157 1 ?_
 refine XK.nilrow 3 1 ?_
 refine XK.lp (α := ((Option Addr × Nat) × List Value) × ((Option Addr × Nat) × List Value) × ((Option Addr × Nat) × List Value) × (Option Addr × Nat) × List Value) (fun i x => [(12, .int .i64 i), (11, .slice x.2.2.2.1.1 i x.2.2.2.1.2), (10, .pointer (some ⟨g2, 0, none⟩)), (1, .pointer (some ⟨g1, 0, none⟩))]) (fun i x => [HP.own 71 6 (.slice x.1.1.1 i x.1.1.2) i x.1.2, HP.own 154 1 (.slice x.2.1.1.1 i x.2.1.1.2) i x.2.1.2, HP.own 157 1 (.slice x.2.2.1.1.1 i x.2.2.1.1.2) i x.2.2.1.2, HP.own 3 1 (.slice x.2.2.2.1.1 i x.2.2.2.1.2) i x.2.2.2.2, HP.blk g2 153 [.slice x.1.1.1 i x.1.1.2, .pointer p6, .pointer p7, .pointer p8, .slice x.2.1.1.1 i x.2.1.1.2, .slice x.2.2.1.1.1 i x.2.2.1.1.2, .pointer none], HP.blk g1 34 [.slice A1 n1 k1, .slice A2 n2 k2, .slice A3 n3 k3, .slice A4 s.devs.length k4]]) (fun i x => ∃ zs, x.2.2.2.2 = intCells zs ∧ zs.length = i) s.devs.length (((none, 0), []), ((none, 0), []), ((none, 0), []), (none, 0), []) ⟨[], rfl, rfl⟩ fun i x hi hx => ?_
 obtain ⟨⟨⟨L1, L2⟩, L3⟩, ⟨⟨M1, M2⟩, M3⟩, ⟨⟨N1, N2⟩, N3⟩, ⟨O1, O2⟩, O3⟩ := x
 obtain ⟨zs, rfl, hzl⟩ := hx
 dsimp only
 refine XK.gw ?_
 refine XK.if_ rfl (fun hlt => ?_) (fun hge => ?_)
 ·have hlt : i < s.devs.length := by omega
  obtain ⟨d, hd⟩ := get_some hlt
  obtain ⟨b, off, _, rfl, ⟨AR, _, kR, AN, _, kN, rfl, rfl, rfl, hR, hN⟩, hro⟩ := hW.dev.rowN hd
  have k4 := hro.at_ (j := 4) rfl
  have hdr : d.regs.length ≤ 8 := by
   have := (hm.devs i d hd).2.2.2.2.2.2.2.2.1
   omega
  refine XK.gw ?_
  refine XK.dr ?_
  refine XB.nx 10 ?_
  refine ksl fun g3 => ?_
  refine XB.bk ?_
  refine XB.tl [11, 12, 13, 14] ?_
  refine XK.gw ?_
  refine kap 1 fun A' k' => ?_
  dsimp only [List.set]
  refine XK.gw ?_
  refine xk_callV (f := 40) (fi := []) (ca := []) (by kernel_rfl) rfl rfl (by decide) PtrE' (fun w1 t => ref9New_any d.regs hdr AR kR w1 (hR.le (t.le (by simp)))) fun v hv => ?_
  obtain ⟨p9, e9, rfl⟩ := hv
  refine XK.gw ?_
  refine ksl fun g4 => ?_
  refine XK.gw ?_
  refine kap 3 fun A'' k'' => ?_
  dsimp only [List.set]
  refine XK.gw ?_
  refine XK.dr ?_
  refine XB.nx 5 ?_
  refine xk_callV (f := 41) (fi := []) (ca := []) (by kernel_rfl) rfl rfl (by decide) (fun v => ∃ p : Option Addr, v = .pointer p) (fun w1 t => ref10New_any w1) fun v hv => ?_
  obtain ⟨p10, rfl⟩ := hv
  refine XB.bk ?_
  refine XB.nx 6 ?_
  refine ksl fun g5 => ?_
  refine XB.bk ?_
  refine XB.tl [7, 8, 9, 10] ?_
  refine XK.gw ?_
  refine kap 5 fun A3' k3' => ?_
  dsimp only [List.set]
  refine XK.gw ?_
  refine ksl fun g6 => ?_
  refine XK.gw ?_
  refine kap 7 fun A4' k4' => ?_
  dsimp only [List.set]
  refine XK.gw ?_
  exact XK.ag (((_, _), _), ((_, _), _), ((_, _), _), (_, _), _) (hg := ⟨zs ++ [(d.regs.length : Int)], by simp [intCells], by simp [hzl]⟩)
 ·obtain rfl : i = s.devs.length := by omega
  refine XK.gw ?_
  refine xk_callV (f := 42) (fi := []) (ca := []) (by kernel_rfl) rfl rfl (by decide) PtrE' (fun w1 t => ref11New_any O1 s.devs.length O2 zs w1 (t.slO (i := 3) rfl) hzl.symm (by omega)) fun v hv => ?_
  obtain ⟨p11, e11, rfl⟩ := hv
  refine XK.gw ?_
  exact XK.ret2 rfl rfl rfl fun w1 t => ⟨⟨_, rfl, ⟨_, _, rfl⟩⟩, t.below (by simp)⟩
theorem ref18New_any (p q : Option Addr) : Calls Tryz.prog 19 #[.pointer p, .pointer q, .agg #[.slice A1 n1 k1, .slice A2 n2 k2, .slice A3 n3 k3, .slice A4 n4 k4]] w (fun y w' => (∃ v, y = .returned v ∧ PtrE' v) ∧ Below w.heap.size w w') := by
 have hnv := hm.nv
 obtain rfl := hW.len1
 obtain rfl := hW.len2
 obtain rfl := hW.len3
 obtain rfl := hW.len4
 refine XK.enter (vs := [.pointer p, .pointer q, .agg #[.slice A1 s.clocks.length k1, .slice A2 s.domains.length k2, .slice A3 s.resets.length k3, .slice A4 s.devs.length k4]]) Tryz.func19 rfl Tryz.ntmps19 (by simp) ?_
 refine XK.gw ?_
 refine kbx fun g1 => ?_
 refine XK.gw ?_
 refine xk_callV (f := 45) (fi := []) (ca := []) (by kernel_rfl) rfl rfl (by decide) (fun v => ∃ p : Option Addr, v = .tuple #[.pointer p, .int .i64 0]) (fun w1 t => ref16New_any s A1 A2 A3 A4 _ k1 _ k2 _ k3 _ k4 w1 (hW.le (t.started (by simp))) hm) fun v hv => ?_
 obtain ⟨p16, rfl⟩ := hv
 refine XK.gw ?_
 cases p with
 | none =>
  refine XK.gw ?_
  exact XK.ret2 rfl rfl rfl fun w1 t => ⟨⟨_, rfl, ⟨_, _, rfl⟩⟩, t.below (by simp)⟩
 | some a =>
  refine XK.gw ?_
  cases q with
  | none =>
   refine XK.gw ?_
   exact XK.ret2 rfl rfl rfl fun w1 t => ⟨⟨_, rfl, ⟨_, _, rfl⟩⟩, t.below (by simp)⟩
  | some b =>
   refine XK.gw ?_
   refine XK.dr ?_
   refine XB.nx 5 ?_
   refine xk_callV (f := 46) (fi := []) (ca := []) (by kernel_rfl) rfl rfl (by decide) (fun v => ∃ v1 v2 v3 : Value, v = .agg #[v1, v2, v3]) (fun w1 t => ref17Nil_any s A1 A2 A3 A4 _ k1 _ k2 _ k3 _ k4 w1 (hW.le (t.started (by simp))) hm) fun v hv => ?_
   obtain ⟨v1, v2, v3, rfl⟩ := hv
   refine XB.bk ?_
   refine XB.tl [6, 7, 8] ?_
   refine XK.gw ?_
   refine kbx fun g2 => ?_
   refine XK.gw ?_
   refine XK.lp (α := Value × Value × Value) (fun i _ => [(11, .int .i64 i), (10, .pointer (some ⟨g2, 0, none⟩)), (5, .pointer (some ⟨g1, 0, none⟩))]) (fun i x => [HP.blk g2 183 [.pointer (some a), .pointer (some b), .slice A1 s.clocks.length k1, .slice A2 s.domains.length k2, .slice A3 s.resets.length k3, .slice A4 s.devs.length k4, .int .i64 0, .int .u8 0, .int .i64 0, .int .i64 0, .int .u32 0, .int .i64 0, .int .u32 0, x.1, .int .i64 0, .int .u8 0, .int .i64 0, .int .i64 0, .int .u32 0, .int .i64 0, .int .u32 0, x.2.1, .int .i64 0, .int .u8 0, .int .i64 0, .int .i64 0, .int .u32 0, .int .i64 0, .int .u32 0, x.2.2, .pointer p16, v1, v2, v3, .slice none 0 0, .int .i64 0, .bool false, .int .i64 (-1)], HP.blk g1 34 [.slice A1 s.clocks.length k1, .slice A2 s.domains.length k2, .slice A3 s.resets.length k3, .slice A4 s.devs.length k4]]) (fun _ _ => True) 3 (.slice none 0 0, .slice none 0 0, .slice none 0 0) trivial fun i x hi _ => ?_
   obtain ⟨x1, x2, x3⟩ := x
   dsimp only
   refine XK.gw ?_
   refine XK.if_ rfl (fun hlt => ?_) (fun hge => ?_)
   ·obtain rfl | rfl | rfl : i = 0 ∨ i = 1 ∨ i = 2 := by omega
    all_goals
     refine XK.gw ?_
     refine XK.dr ?_
     refine XB.nx 5 ?_
     refine xk_makeT 8 (n := s.devs.length) (el := 3) (z := .int .i64 0) (by kernel_rfl) (by kernel_rfl) rfl rfl rfl (by omega) (by omega) (by decide) fun g3 => ?_
     refine XB.bk ?_
     refine XB.qz 8 ?_
     refine XB.qz 9 ?_
     refine XB.tl [10] ?_
     refine XK.gw ?_
     exact XK.ag (_, _, _)
   ·refine XK.gw ?_
    exact XK.ret2 rfl rfl rfl fun w1 t => ⟨⟨_, rfl, ⟨_, _, rfl⟩⟩, t.below (by simp)⟩
end
end
section
set_option maxHeartbeats 4000000
set_option maxRecDepth 20000
def Rig18 (s : Soc) (v : Value) (hs : List HP) (_ : Piece) : Prop := ∃ (g f r : Nat) (hL : HL) (p : Option Addr), v = .tuple #[.pointer (some ⟨g, 0, none⟩), .bool true] ∧ hs = [HP.blk g 47 [.pointer (some ⟨hL.h, 0, none⟩), .pointer (some ⟨f, 0, none⟩), .pointer (some ⟨r, 0, none⟩), .pointer p], RpmX r hL.h f s (rpN s), FirmX f hL.h s (fm0 s), HardH hL s (hw0 s)] ∧ HLOk hL s
theorem rig18_ok (s : Soc) (A1 A2 A3 A4 : Option Addr) (n1 k1 n2 k2 n3 k3 n4 k4 : Nat) (w : World) (hW : SocW w s A1 n1 A2 n2 A3 n3 A4 n4) (hm : s.made) :
  Calls Tryz.prog 6 #[.agg #[.slice A1 n1 k1, .slice A2 n2 k2, .slice A3 n3 k3, .slice A4 n4 k4]] w (fun y w' => (∃ v hs q, y = .returned v ∧ q.w = w' ∧ Rig18 s v hs q ∧ New w hs q) ∧ Below w.heap.size w w') := by
 have hH := hm.okH
 refine XK.enter (vs := [.agg #[.slice A1 n1 k1, .slice A2 n2 k2, .slice A3 n3 k3, .slice A4 n4 k4]]) Tryz.func6 rfl Tryz.ntmps6 (by simp) ?_
 refine XK.gw ?_
 refine kbx fun g1 => ?_
 refine XK.gw ?_
 refine xk_callN (f := 15) (fi := []) (ca := []) (by kernel_rfl) rfl rfl (by decide) (HardOk s) (fun w1 t => hardNew_ok s hH A1 A2 A3 A4 n1 k1 n2 k2 n3 k3 n4 k4 w1 (hW.le (t.started (by simp)))) ?_
 rintro _ _ q2 ⟨hL, rfl, rfl, hl1, hl2⟩ _
 dsimp only [List.cons_append, List.nil_append]
 refine XK.gw ?_
 refine xk_callN (f := 16) (fi := []) (ca := []) (by kernel_rfl) rfl rfl (by decide) (FirmOk hL.h s) (fun w1 t => firmNew_ok hL.h s hH A1 A2 A3 A4 n1 k1 n2 k2 n3 k3 n4 k4 w1 (hW.le (t.started (by simp)))) ?_
 rintro _ _ q3 ⟨f, rfl, rfl⟩ _
 dsimp only [List.cons_append, List.nil_append]
 refine XK.gw ?_
 refine xk_callN (f := 7) (fi := []) (ca := []) (by kernel_rfl) rfl rfl (by decide) (RpmNk hL.h f s) (fun w1 t => rpmNew_ok s A1 A2 A3 A4 n1 k1 n2 k2 n3 k3 n4 k4 w1 hL.h f hm (hW.le (t.started (by simp)))) ?_
 rintro _ _ q4 ⟨r, rfl, rfl⟩ _
 dsimp only [List.cons_append, List.nil_append]
 refine XK.gw ?_
 refine xk_callV (f := 17) (fi := []) (ca := []) (by kernel_rfl) rfl rfl (by decide) PtrE' (fun w1 t => ref12New_any s A1 A2 A3 A4 n1 k1 n2 k2 n3 k3 n4 k4 w1 (hW.le (t.started (by simp))) hm) fun v hv => ?_
 obtain ⟨p12, e12, rfl⟩ := hv
 refine XK.gw ?_
 refine xk_callV (f := 18) (fi := []) (ca := []) (by kernel_rfl) rfl rfl (by decide) PtrE' (fun w1 t => ref15New_any s A1 A2 A3 A4 n1 k1 n2 k2 n3 k3 n4 k4 w1 (hW.le (t.started (by simp))) hm p12) fun v hv => ?_
 obtain ⟨p15, e15, rfl⟩ := hv
 refine XK.gw ?_
 refine xk_callV (f := 19) (fi := []) (ca := []) (by kernel_rfl) rfl rfl (by decide) PtrE' (fun w1 t => ref18New_any s A1 A2 A3 A4 n1 k1 n2 k2 n3 k3 n4 k4 w1 (hW.le (t.started (by simp))) hm p12 p15) fun v hv => ?_
 obtain ⟨p18, e18, rfl⟩ := hv
 refine XK.gw ?_
 refine kbx fun g2 => ?_
 refine XK.gw ?_
 refine XK.weak [0, 1, 2, 3] rfl (by decide) (R' := [all w]) (by simp) ?_
 refine XK.still [] [] [0, 1, 2, 3] (by simp) rfl (by decide) (by decide) fun q _ _ hfr => ?_
 exact XK.ret2 rfl rfl rfl fun w1 t => ⟨⟨_, _, ⟨w1, q.Z⟩, rfl, rfl, ⟨g2, f, r, hL, _, rfl, rfl, ⟨hl1, hl2⟩⟩, t.newR (by simp) (by simp) (hfr (by simp) (by simp))⟩, t.below (by simp)⟩
end
section
set_option maxHeartbeats 4000000
set_option maxRecDepth 20000
theorem turns_rt {p : HP} {F : Nat → Prop} {w w' : World} {v : Value} {y : Ending} (hp : p.sat F w) (hF : ∀ b, F b → b < w.heap.size) (h : Rt v w y w') : y = .returned v ∧ ∃ F', p.sat F' w' ∧ Turns w w' F F' :=
 ⟨h.1, F, p.loc _ _ _ hp (fun b hb => h.2.block b (hF b hb)), h.2.os, h.2.tape, h.2.output, h.2.size, fun b hb => ⟨.inl hb, Nat.lt_of_lt_of_le (hF b hb) h.2.size⟩, fun b hb _ => h.2.block b hb⟩
section
variable (g h f : Nat) (s : Soc) (z : RpS) (w : World) (F : Nat → Prop) (d : Dev) (hk : z.t0.kind = 114) (hdv : z.t0.dev = 0) (hrg : z.t0.reg = 0) (hd0 : s.devs[0]? = some d) (hdr : 1 ≤ d.regs.length) (hh0 : hG z.t0 0 = 0)
include hk hdv hrg hd0 hdr hh0
theorem rpAccessR_any (L : RpL) (hR : RpmR w g h f L s z) : Calls Tryz.prog 194 #[.agg #[.bool false], .pointer (some ⟨g, 0, none⟩), .pointer (some ⟨g, 10, none⟩)] w (Rt (.int .i64 6) w) := by
 have hlt := (List.getElem?_eq_some_iff.1 hd0).1
 have hin : inB s.devs.length 0 = true := decide_eq_true (by omega)
 have c4 : ROn w g (10 + 1) [.int .u8 114, .int .i64 0, .int .i64 0, .int .u32 z.t0.val] := by
  refine ⟨hR.r0.1, fun j v hv => ?_⟩
  have h4 : j < 4 := by simpa using (List.getElem?_eq_some_iff.1 hv).1
  have := hR.r0.2 (11 + j) v (by
   rw [← hk, ← hdv] at hv
   have h5 : j = 0 ∨ j = 1 ∨ j = 2 ∨ j = 3 := by omega
   rcases h5 with rfl | rfl | rfl | rfl
   ·exact hv
   ·exact hv
   ·rw [hdv, ← hrg] at hv; exact hv
   ·exact hv)
  rwa [Nat.zero_add] at this
 have k5 := hR.r0.at_ (j := 5) rfl
 have k17 : ROc w g 17 (.int .i64 0) := by
  have := hR.r0.at_ (j := 17) rfl
  rwa [hh0] at this
 obtain ⟨b, off, _, hA, ⟨AR, _, kR, AN, _, kN, rfl, rfl, rfl, _, _⟩, hro⟩ := hR.so.dev.rowN hd0
 rw [hA] at k5
 have k4 := hro.at_ (j := 4) rfl
 simp only [Nat.zero_mul, Nat.add_zero] at k4
 refine XK.enter (vs := [.agg #[.bool false], .pointer (some ⟨g, 0, none⟩), .pointer (some ⟨g, 10, none⟩)]) Tryz.func194 rfl Tryz.ntmps194 (by simp) ?_
 refine XK.gw ?_
 refine kbx fun g1 => ?_
 refine XK.gw ?_
 refine kal fun g7 => ?_
 refine XK.gw ?_
 refine XK.drawQ ?_
 refine XQ.go ?_
 refine XQ.call (fun w1 t => rpDevice_any g h f L s z w1 0 (hR.below (t.started (by simp)))) ?_
 rw [hin]
 refine XQ.go ?_
 refine XQ.kd (dat 0 off) ?_
 refine XQ.end_ ?_
 refine XK.gw ?_
 refine XK.if_ rfl (fun h1 => absurd h1 (by omega)) (fun _ => ?_)
 refine XK.gw ?_
 refine XK.drawQ ?_
 refine XQ.go ?_
 refine XQ.kd (datA 0 17 (ho := rfl)) ?_
 refine XQ.end_ ?_
 refine XK.gw ?_
 exact XK.retE (by simp) rfl
variable (hp : (RpmX g h f s z).sat F w) (hF : ∀ b, F b → b < w.heap.size)
include hp hF
theorem rpBeginR_m : Calls Tryz.prog 26 #[.pointer (some ⟨g, 0, none⟩), .int .i64 0] w (fun y w' => y = .returned (.tuple #[]) ∧ ∃ F', (RpmX g h f s (endZ (onZ z 0) 0 6 0)).sat F' w' ∧ Turns w w' F F') := by
 have hj : T3 0 := .inl rfl
 refine XK.enterM (p := RpmX g h f s z) (F := F) (vs := [.pointer (some ⟨g, 0, none⟩), .int .i64 0]) Tryz.func26 rfl Tryz.ntmps26 (by simp) hp hF ?_
 generalize hR0 : (⟨w, fun b => b < w.heap.size ∧ ¬ F b⟩ : Piece) = R0
 refine XK.openEx 0 rfl fun L => ?_
 dsimp only [List.set]
 refine XK.take 0 0 rfl rfl ?_
 dsimp only [List.set]
 refine XK.go ?_
 refine kst rfl rfl ?_ (hs := StoreAt.mk 0 rfl OneT.h rfl (of_decide_eq_true rfl))
 dsimp only [List.set]
 rw [show (rpC h f L s z).set (0 + 49) (.int .i64 0) = rpC h f L s { z with hol := 0 } from rfl]
 refine XK.go ?_
 refine kd (datA 0 10 (ho := rfl)) ?_
 refine XK.go ?_
 refine kst rfl rfl ?_ (hs := StoreAt.mk 0 rfl OneT.h rfl (by rw [rpC_len]; omega))
 dsimp only [List.set]
 rw [show (rpC h f L s { z with hol := 0 }).set (10 + 0) (.int .i64 2) = rpC h f L s (onZ z 0) from rfl]
 refine XK.give 0 0 rfl rfl ?_
 dsimp only [List.set]
 change XK _ _ _ _ _ [RpmH g h f L s (onZ z 0)]
 refine XK.go ?_
 refine kd (does_ld1 rfl (Rd.rpm 0 rfl (rpC_at (j := 0) (k := 1) hj rfl))) ?_
 rw [show ((onZ z 0).tk 0).kind = 114 from hk]
 refine kcall (fun w1 _ => rpEffectOf_any 114 w1) ?_
 rw [show effV 114 = .iface 202 (.agg #[.bool false]) from rfl]
 refine XK.go ?_
 refine xk_invM 0 (RpmH g h f L s (onZ z 0)) (f := 194) (by kernel_rfl) rfl (fun w => by kernel_rfl) rfl rfl ⟨by decide, rfl⟩ (fun w1 F1 t h1 h2 h3 => (rpAccessR_any g h f s (onZ z 0) w1 d hk hdv hrg hd0 hdr hh0 L (RpmH.reads h1 h2)).mono fun y w' hy => turns_rt h1 h2 hy) ?_
 dsimp only [List.set]
 refine XK.toEx 0 (f := fun L : RpL => RpmH g h f L s (onZ z 0)) L rfl ?_
 dsimp only [List.set]
 refine XK.go ?_
 refine xk_buildS (zs := [.int .i64 0, .int .u32 0]) (L := [(0, 1), (1, 1)]) (zeroB_of (by kernel_rfl)) (by kernel_rfl) rfl (by simp [fillL, setN, Value.cells]; rfl) (by decide) ?_
 refine XK.go ?_
 refine kcallW 0 (RpmX g h f s (endZ (onZ z 0) 0 6 0)) (fun w1 F1 t h1 h2 h3 => rpEnd_m g h f s (onZ z 0) w1 F1 0 rfl hj 6 0 h1 h2) ?_
 dsimp only [List.set]
 refine XK.go ?_
 subst hR0
 exact XK.ret0 (.inl rfl) rfl fun w1 t => ⟨rfl, t.turns hF (by simp) (i := 0) rfl⟩
theorem rpStepR_m (h1 : z.t0.st = 1) (hh : z.hol < 0) : Calls Tryz.prog 14 #[.pointer (some ⟨g, 0, none⟩), .int .i64 0] w (fun v w' => v = .returned (.tuple #[]) ∧ ∃ F', (RpmX g h f s (endZ (onZ z 0) 0 6 0)).sat F' w' ∧ Turns w w' F F') := by
 refine XK.enterDM (vs := [.pointer (some ⟨g, 0, none⟩), .int .i64 0]) (p := RpmX g h f s z) Tryz.func14 rfl Tryz.ntmps14 (by simp) hp hF ?_
 generalize hR0 : (⟨w, fun b => b < w.heap.size ∧ ¬ F b⟩ : Piece) = R0
 refine XK.go ?_
 refine xk_defer (f := 25) (fi := []) (ca := []) rfl ?_
 refine XK.go ?_
 refine kcall (fun w1 _ => rpKnown_any 0 w1) ?_
 rw [show inB 3 0 = true from rfl]
 refine XK.go ?_
 refine XK.openEx 0 rfl fun L => ?_
 dsimp only [List.set]
 refine XK.go ?_
 refine kd (datA 0 10 (ho := rfl)) ?_
 refine XK.go ?_
 refine kd (does_ld1 rfl (Rd.rpm 0 rfl (rpC_at (j := 0) (k := 0) (.inl rfl) rfl))) ?_
 rw [show (z.tk 0).st = 1 from h1]
 refine XK.go ?_
 refine kd (does_ld1 rfl (Rd.rpm 0 rfl rfl)) ?_
 refine XK.go ?_
 refine XK.toEx 0 (f := fun L : RpL => RpmH g h f L s z) L rfl ?_
 dsimp only [List.set]
 refine XK.if_ rfl (fun h2 => ?_) (fun h2 => absurd hh h2)
 refine XK.go ?_
 refine kcallW 0 (RpmX g h f s (endZ (onZ z 0) 0 6 0)) (fun w1 F1 t h1a h2a h3 => rpBeginR_m g h f s z w1 F1 d hk hdv hrg hd0 hdr hh0 h1a h2a) ?_
 dsimp only [List.set]
 refine XK.go ?_
 subst hR0
 exact XK.leave0 (.inr rfl) (by kernel_rfl) rpRec_idle rfl fun w1 t => ⟨rfl, t.turns hF (by simp) (i := 0) rfl⟩
end
end
section
set_option maxHeartbeats 4000000
set_option maxRecDepth 20000
def soc18 : Soc := ⟨[⟨111, [], 1, 0, 0, 0⟩], [⟨-1, 0, false⟩], [0], [⟨0, 0, 0, 0, [⟨0, false⟩], []⟩]⟩
theorem soc18_made : soc18.made := by
 refine ⟨?_, ?_, by simp [soc18], ?_, by decide, by decide, by decide, by decide⟩
 ·exact (Fits.nil Clk.fit).snoc ⟨by simp, .inl ⟨rfl, rfl, by decide, by decide, rfl, rfl, rfl⟩⟩
 ·exact (Fits.nil Dom.fit).snoc ⟨.inl rfl, by decide, by decide⟩
 ·exact (Fits.nil (Dev.fit 1 1 1)).snoc ⟨by decide, by decide, by decide, by decide, by decide, by decide, by decide, by decide, by decide, by simp, by decide, by simp⟩
section
variable {N : Frm} {w0 w : World} {e : Env} {R : List Piece} {H : List HP}
theorem soc18_W (st : St w0 R H w) {i1 i2 i3 i4 i5 g1 g2 g3 g4 g5 : Nat} (h1 : H[i1]? = some (HP.blk g1 64 [.int .u8 111, .slice none 0 0, .int .u64 1, .int .i64 0, .int .i64 0, .int .i64 0])) (h2 : H[i2]? = some (HP.blk g2 49 [.int .i64 (-1), .int .i64 0, .bool false])) (h3 : H[i3]? = some (HP.blk g3 66 [.int .i64 0])) (h5 : H[i5]? = some (HP.blk g5 68 [.int .u32 0, .bool false])) (h4 : H[i4]? = some (HP.blk g4 71 [.int .i64 0, .int .i64 0, .int .i64 0, .int .u32 0, .slice (some ⟨g5, 0, none⟩) 1 1, .slice none 0 0])) :
  SocW w soc18 (some ⟨g1, 0, none⟩) 1 (some ⟨g2, 0, none⟩) 1 (some ⟨g3, 0, none⟩) 1 (some ⟨g4, 0, none⟩) 1 :=
 ⟨⟨[_], ⟨rfl, ⟨none, 0, 0, rfl, rfl, rfl, fun h => absurd h (by omega)⟩, trivial⟩, rfl, st.slS h1 rfl⟩, ⟨[_], ⟨rfl, rfl, trivial⟩, rfl, st.slS h2 rfl⟩, ⟨[_], ⟨rfl, rfl, trivial⟩, rfl, st.slS h3 rfl⟩, ⟨[_], ⟨rfl, ⟨some ⟨g5, 0, none⟩, 1, 1, none, 0, 0, rfl, rfl, rfl, st.slS h5 rfl, rfl, fun h => absurd h (by omega)⟩, trivial⟩, rfl, st.slS h4 rfl⟩, made_small soc18_made⟩
end
theorem shown18_any (w : World) : Calls Tryz.prog 4 #[] w (Rt (.bool true) w) := by
 refine XK.enter (vs := []) Tryz.func4 rfl Tryz.ntmps4 (by simp) ?_
 refine XK.gw ?_
 refine ksl fun g1 => ?_
 refine XK.gw ?_
 refine ksl fun g2 => ?_
 refine XK.gw ?_
 refine ksl fun g3 => ?_
 refine XK.gw ?_
 refine ksl fun g5 => ?_
 refine XK.gw ?_
 refine ksl fun g4 => ?_
 refine XK.gw ?_
 refine kal fun g6 => ?_
 refine XK.gw ?_
 refine xk_callN (f := 6) (fi := []) (ca := []) (by kernel_rfl) rfl rfl (by decide) (Rig18 soc18) (fun w1 t => rig18_ok soc18 _ _ _ _ 1 1 1 1 1 1 1 1 w1 (soc18_W t (i1 := 5) (i2 := 4) (i3 := 3) (i4 := 1) (i5 := 2) rfl rfl rfl rfl rfl) soc18_made) ?_
 rintro _ _ q2 ⟨gR, f, r, hL, pX, rfl, rfl, hLo⟩ _
 dsimp only [List.cons_append, List.nil_append]
 refine XK.gw ?_
 obtain ⟨z1, hz1, hk, hdv, hrg, hh0, hst, hho⟩ : ∃ z1, startZ (rpN soc18) 0 114 0 0 0 = (0, z1) ∧ z1.t0.kind = 114 ∧ z1.t0.dev = 0 ∧ z1.t0.reg = 0 ∧ hG z1.t0 0 = 0 ∧ z1.t0.st = 1 ∧ z1.hol < 0 := ⟨_, rfl, rfl, rfl, rfl, rfl, rfl, by decide⟩
 refine kcallW 1 (RpmX r hL.h f soc18 z1) (fun w1 F1 t h1 h2 h3 => by
  have := rpStart_m r hL.h f soc18 (rpN soc18) w1 F1 0 114 0 0 0 h1 h2
  rw [hz1] at this
  exact this) ?_
 dsimp only [List.set]
 refine XK.gw ?_
 refine kcallW 1 (RpmX r hL.h f soc18 (endZ (onZ z1 0) 0 6 0)) (fun w1 F1 t h1 h2 h3 => rpStepR_m r hL.h f soc18 z1 w1 F1 _ hk hdv hrg rfl (Nat.le_refl 1) hh0 h1 h2 hst hho) ?_
 dsimp only [List.set]
 refine XK.gw ?_
 refine kcallW 1 (RpmX r hL.h f soc18 (doneZ (endZ (onZ z1 0) 0 6 0) 0).2) (fun w1 F1 t h1 h2 h3 => rpDone_m r hL.h f soc18 (endZ (onZ z1 0) 0 6 0) w1 F1 0 h1 h2) ?_
 dsimp only [List.set]
 rw [show (doneZ (endZ (onZ z1 0) 0 6 0) 0).1 = (6, 0, true) from rfl]
 refine XK.gw ?_
 refine kal fun g7 => ?_
 refine XK.gw ?_
 exact XK.retE (by simp) rfl
end
section
structure ActD where
 op : Int
 task : Int
 kind : Int
 dev : Int
 reg : Int
 v : Int
 ag : Int
 pr : Int
 ms : Int
 id : Int
 aw : Int
 od : Int
def ActD.cells (a : ActD) : List Value := [.int .i64 a.op, .int .i64 a.task, .int .i64 a.kind, .int .i64 a.dev, .int .i64 a.reg, .int .u32 a.v, .int .i64 a.ag, .int .i64 a.pr, .int .i64 a.ms, .int .i64 a.id, .int .i64 a.aw, .int .i64 a.od]
def In64 (a : Int) : Prop := -9223372036854775808 ≤ a ∧ a ≤ 9223372036854775807
structure ActD.ok (a : ActD) : Prop where
 op : In64 a.op
 task : In64 a.task
 kind : In64 a.kind
 dev : In64 a.dev
 reg : In64 a.reg
 v : 0 ≤ a.v ∧ a.v < 4294967296
 pr : In64 a.pr
 ms : In64 a.ms
 id : In64 a.id
 aw : In64 a.aw
 od : In64 a.od
theorem ActD.len (a : ActD) : a.cells.length = 12 := rfl
end
section
def pickF (c n : Int) : Int := (if c < 0 then 0 - (c + 1) else c) % n
theorem pickF_bd (c n : Int) (hn : 0 < n) : 0 ≤ pickF c n ∧ pickF c n < n := ⟨Int.emod_nonneg _ (by omega), Int.emod_lt_of_pos _ hn⟩
def kindA (r : Int) : Int := ([103, 103, 103, 112, 112, 114, 119, 114, 119, 115, 109, 109, 120] : List Int).getD r.toNat 0
theorem kindA_at {r : Int} (h0 : 0 ≤ r) (h1 : r < 13) : ([.int .u8 103, .int .u8 103, .int .u8 103, .int .u8 112, .int .u8 112, .int .u8 114, .int .u8 119, .int .u8 114, .int .u8 119, .int .u8 115, .int .u8 109, .int .u8 109, .int .u8 120] : List Value)[r.toNat]? = some (.int .u8 (kindA r)) := by
 obtain ⟨n, rfl⟩ : ∃ n : Nat, r = (n : Int) := ⟨r.toNat, by omega⟩
 have hn : n < 13 := by omega
 unfold kindA
 rw [Int.toNat_natCast]
 match n, hn with
 | 0, _ | 1, _ | 2, _ | 3, _ | 4, _ | 5, _ | 6, _ | 7, _ | 8, _ | 9, _ | 10, _ | 11, _ | 12, _ => rfl
 | n + 13, h => omega
def callK (a : ActD) : Int := kindA (pickF a.kind 13)
def callD (a : ActD) (many : Int) : Int := pickF a.dev (many + 1)
def callR (a : ActD) : Int := pickF a.reg 4
end
section
set_option maxHeartbeats 4000000
set_option maxRecDepth 20000
theorem pick18_at (c n : Int) (w : World) (hc : In64 c) (hn : 0 < n) : Calls Tryz.prog 9 #[.int .i64 c, .int .i64 n] w (Rt (.int .i64 (pickF c n)) w) := by
 unfold In64 at hc
 refine XK.enter (vs := [.int .i64 c, .int .i64 n]) Tryz.func9 rfl Tryz.ntmps9 (by simp) ?_
 refine XK.gw ?_
 refine XK.if_ rfl (fun h => ?_) (fun h => ?_)
 ·refine XK.gw ?_
  refine XK.retE (by simp) ?_
  rw [pickF, if_pos h]
 ·refine XK.gw ?_
  refine XK.retE (by simp) ?_
  rw [pickF, if_neg h]
theorem call18_at (a : ActD) (many : Int) (w : World) (ha : a.ok) (hm : 0 ≤ many ∧ many ≤ 1000) : Calls Tryz.prog 8 #[.agg a.cells.toArray, .int .i64 many] w (Rt (.agg #[.int .u8 (callK a), .int .i64 (callD a many), .int .i64 (callR a), .int .u32 a.v]) w) := by
 obtain ⟨a0, a1, a2, a3, a4, a5, b0, b1, b2, b3, b4, b5⟩ := a
 have h2 : In64 a2 := ha.kind
 have h3 : In64 a3 := ha.dev
 have h4 : In64 a4 := ha.reg
 obtain ⟨p0, p1⟩ := pickF_bd a2 13 (by decide)
 have hk := kindA_at p0 p1
 have q := pickF_bd a3 (many + 1) (by omega)
 refine XK.enter (vs := [.agg #[.int .i64 a0, .int .i64 a1, .int .i64 a2, .int .i64 a3, .int .i64 a4, .int .u32 a5, .int .i64 b0, .int .i64 b1, .int .i64 b2, .int .i64 b3, .int .i64 b4, .int .i64 b5], .int .i64 many]) Tryz.func8 rfl Tryz.ntmps8 (by simp) ?_
 refine XK.gw ?_
 refine kbx fun g1 => ?_
 refine XK.gw ?_
 refine kal fun g2 => ?_
 refine XK.gw ?_
 refine ksl fun g3 => ?_
 refine XK.gw ?_
 refine XK.dz ?_
 refine XB.nx 3 ?_
 refine kcall (fun w1 t => pick18_at _ 13 w1 h2 (by decide)) ?_
 refine XB.bk ?_
 refine XB.qz 4 ?_
 refine XB.qz 5 ?_ (hdo := does_ld1 rfl (Rd.blk 0 rfl (by simpa using hk)))
 refine XB.nx 10 ?_
 refine kcall (fun w1 t => pick18_at _ (many + 1) w1 h3 (by omega)) ?_
 refine XB.bk ?_
 refine XB.nx 13 ?_
 refine kcall (fun w1 t => pick18_at _ 4 w1 h4 (by decide)) ?_
 refine XB.bk ?_
 refine XB.lo 16 ?_
 refine XB.nx 17 ?_
 refine kstW 1 rfl ?_
 dsimp only [List.set]
 refine XB.bt ?_
 refine XB.fin ?_
 refine XK.gw ?_
 exact XK.retC (vs := [.int .u8 (kindA (pickF a2 13)), .int .i64 (pickF a3 (many + 1)), .int .i64 (pickF a4 4), .int .u32 a5]) rfl (by kernel_rfl) rfl rfl (RdN.whole 1 rfl) fun w1 t => ⟨rfl, t.below (by simp)⟩
end
section
set_option maxHeartbeats 4000000
set_option maxRecDepth 20000
def badDom (d : Dom) : Dom := { d with delay := -1 }
def badSoc (s : Soc) : Soc := { s with domains := match s.domains with
 | [] => []
 | d :: ds => badDom d :: ds }
theorem firstE_zero {es : List Int} (h : firstE es = 0) : ∀ e ∈ es, e = 0 := fun e he => by
 refine Classical.byContradiction fun hne => ?_
 obtain ⟨k, hk⟩ := List.getElem?_of_mem he
 have key : ∀ (es : List Int) (k : Nat) (e : Int), es[k]? = some e → e ≠ 0 → firstE es ≠ 0 := by
  intro es
  induction es with
  | nil => intro k e h; simp at h
  | cons a es ih =>
   intro k e h hne
   by_cases ha : a = 0
   ·subst ha
    cases k with
    | zero => simp at h; exact absurd h.symm hne
    | succ k =>
     have := ih k e (by simpa using h) hne
     simpa [firstE] using this
   ·have : firstE (a :: es) = a := by simp [firstE, ha]
    rw [this]
    exact ha
 exact key es k e hk hne h
theorem bad_check {s : Soc} (hm : s.made) : checkS (badSoc s) = 3 := by
 have h0 := firstE_zero (made_check hm)
 have hnd := hm.nd
 obtain ⟨d, ds, hd⟩ : ∃ d ds, s.domains = d :: ds := by
  cases h : s.domains with
  | nil => rw [h] at hnd; simp at hnd
  | cons d ds => exact ⟨d, ds, rfl⟩
 have hb : (badSoc s).domains = badDom d :: ds := by simp [badSoc, hd]
 have e1 : fullE (badSoc s) = 0 := by
  have := h0 (fullE s) (by simp [checkL])
  rw [← this]
  unfold fullE
  rw [hb, hd]
  rfl
 have e2 : firstE (s.clocks.map (clockE s.clocks.length)) = 0 := h0 _ (by simp [checkL])
 have e3 : cycE (clocksG s) = 0 := h0 _ (by simp [checkL])
 have hab : d.above = -1 := by
  have := (hm.domains 0 d (by rw [hd]; rfl)).1
  omega
 have e4 : firstE ((badSoc s).domains.map (domainE (badSoc s).domains.length)) = 3 := by
  have h3 : domainE (badSoc s).domains.length (badDom d) = 3 := by
   simp [domainE, badDom, hab, firstE, whenE, withinB]
  rw [hb] at h3 ⊢
  rw [List.map_cons, h3]
  simp [firstE]
 unfold checkS checkL
 rw [e1, e4, show (badSoc s).clocks = s.clocks from rfl, e2, show clocksG (badSoc s) = clocksG s from rfl, e3]
 simp [firstE]
section
variable (s : Soc) (A1 A2 A3 A4 : Option Addr) (n1 k1 n2 k2 n3 k3 n4 k4 : Nat) (w : World) (hW : SocW w s A1 n1 A2 n2 A3 n3 A4 n4)
include hW
theorem cntBad_any (hc : checkS s = 3) : Calls Tryz.prog 20 #[.agg #[.slice A1 n1 k1, .slice A2 n2 k2, .slice A3 n3 k3, .slice A4 n4 k4]] w (Rt (.tuple #[.pointer none, .int .i64 3]) w) := by
 refine XK.enter (vs := [.agg #[.slice A1 n1 k1, .slice A2 n2 k2, .slice A3 n3 k3, .slice A4 n4 k4]]) Tryz.func20 rfl Tryz.ntmps20 (by simp) ?_
 refine XK.gw ?_
 refine kbx fun g1 => ?_
 refine XK.gw ?_
 refine kcall (fun w1 t => checkS_any s A1 A2 A3 A4 n1 k1 n2 k2 n3 k3 n4 k4 w1 (hW.le (t.started (by simp)))) ?_
 rw [hc]
 refine XK.gw ?_
 exact XK.ret2 rfl rfl rfl fun w1 t => ⟨rfl, t.below (by simp)⟩
theorem rpmBad_any (p q : Option Addr) (hc : checkS s = 3) : Calls Tryz.prog 7 #[.pointer p, .pointer q, .agg #[.slice A1 n1 k1, .slice A2 n2 k2, .slice A3 n3 k3, .slice A4 n4 k4]] w (Rt (.tuple #[.pointer none, .int .i64 3]) w) := by
 refine XK.enter (vs := [.pointer p, .pointer q, .agg #[.slice A1 n1 k1, .slice A2 n2 k2, .slice A3 n3 k3, .slice A4 n4 k4]]) Tryz.func7 rfl Tryz.ntmps7 (by simp) ?_
 refine XK.gw ?_
 refine kbx fun g1 => ?_
 refine XK.gw ?_
 refine kcall (fun w1 t => cntBad_any s A1 A2 A3 A4 n1 k1 n2 k2 n3 k3 n4 k4 w1 (hW.le (t.started (by simp))) hc) ?_
 refine XK.gw ?_
 exact XK.ret2 rfl rfl rfl fun w1 t => ⟨rfl, t.below (by simp)⟩
theorem rpmNone_any (hm : s.made) (p q : Option Addr) (hpq : p = none ∨ q = none) : Calls Tryz.prog 7 #[.pointer p, .pointer q, .agg #[.slice A1 n1 k1, .slice A2 n2 k2, .slice A3 n3 k3, .slice A4 n4 k4]] w (Rt (.tuple #[.pointer none, .int .i64 1]) w) := by
 refine XK.enter (vs := [.pointer p, .pointer q, .agg #[.slice A1 n1 k1, .slice A2 n2 k2, .slice A3 n3 k3, .slice A4 n4 k4]]) Tryz.func7 rfl Tryz.ntmps7 (by simp) ?_
 refine XK.gw ?_
 refine kbx fun g1 => ?_
 refine XK.gw ?_
 refine xk_callN (f := 20) (fi := []) (ca := []) (by kernel_rfl) rfl rfl (by decide) (CntOk s) (fun w1 t => cntNew_ok s A1 A2 A3 A4 n1 k1 n2 k2 n3 k3 n4 k4 w1 hm (hW.le (t.started (by simp)))) ?_
 rintro _ _ q0 ⟨gc, gm, Ag, cg, rfl, rfl⟩ _
 dsimp only [List.cons_append, List.nil_append]
 refine XK.gw ?_
 cases p with
 | none =>
  refine XK.gw ?_
  exact XK.ret2 rfl rfl rfl fun w1 t => ⟨rfl, t.below (by simp)⟩
 | some a =>
  obtain rfl := hpq.resolve_left (by simp)
  refine XK.gw ?_
  exact XK.ret2 rfl rfl rfl fun w1 t => ⟨rfl, t.below (by simp)⟩
end
end
section
def CkZ (cs : List Clk) (rows : List (List Value)) (p : Piece) : Prop := Rows (ClkR (slq p)) 6 cs rows
theorem CkZ.le {cs : List Clk} {rows : List (List Value)} (p q : Piece) (h : p.Le q) (k : CkZ cs rows p) : CkZ cs rows q := Rows.mono (fun _ _ => ClkR.mono (slq_le h)) k
def DvZ (vs : List Dev) (rows : List (List Value)) (p : Piece) : Prop := Rows (DevR (slq p)) 6 vs rows
theorem DvZ.le {vs : List Dev} {rows : List (List Value)} (p q : Piece) (h : p.Le q) (k : DvZ vs rows p) : DvZ vs rows q := Rows.mono (fun _ _ => DevR.mono (slq_le h)) k
def SlP1 (sz : Nat) (A : Option Addr) (n : Nat) (xs : List Value) (p : Piece) : Prop := SlS p sz A n xs
theorem SlP1.le {sz n : Nat} {A : Option Addr} {xs : List Value} (p q : Piece) (h : p.Le q) (k : SlP1 sz A n xs p) : SlP1 sz A n xs q := SlS.le k h
def ckH (cs : List Clk) (rows : List (List Value)) : HP := HP.pic (CkZ cs rows) (CkZ.le (cs := cs) (rows := rows))
def dvH (vs : List Dev) (rows : List (List Value)) : HP := HP.pic (DvZ vs rows) (DvZ.le (vs := vs) (rows := rows))
section
variable {N : Frm} {w0 : World} {K : Act → World → Prop} {e : Env} {R : List Piece} {H : List HP}
theorem XK.emp0 {p : HP} (hp : ∀ w, p.sat (fun _ => False) w) (h : XK N w0 K e R (p :: H)) : XK N w0 K e R H := fun a w hr st => by
 obtain ⟨Z, F, hz, hrr, hs, hff, hdd⟩ := st.ex
 refine h a w hr ⟨st.os, st.tape, st.output, st.size, Z, fun i => match i with | 0 => fun _ => False | i + 1 => F i, hz, hrr, fun i r hi => ?_, fun i b hb => ?_, fun i j b hij hi => ?_⟩
 ·cases i with
  | zero => simp at hi; subst hi; exact hp w
  | succ i => exact hs i r (by simpa using hi)
 ·cases i with
  | zero => exact hb.elim
  | succ i => exact hff i b hb
 ·cases i with
  | zero => exact hi.elim
  | succ i => cases j with
   | zero => exact id
   | succ j => exact hdd i j b (by omega) hi
theorem XK.ckAdd {cs : List Clk} {rows : List (List Value)} {cl : Clk} {A : Option Addr} {c : Nat} (h : XK N w0 K e R (ckH (cs ++ [cl]) (rows ++ [[.int .u8 cl.kind, .slice A cl.src.length c, .int .u64 cl.rate, .int .i64 cl.mul, .int .i64 cl.div, .int .i64 cl.lock]]) :: H)) : XK N w0 K e R (HP.own 3 1 (.slice A cl.src.length c) cl.src.length (intCells cl.src) :: ckH cs rows :: H) :=
 XK.ownPic 0 (Φ := SlP1 1 A cl.src.length (intCells cl.src)) (hm := SlP1.le) rfl (fun _ h => h) (XK.joinPic (X := CkZ (cs ++ [cl]) (rows ++ [_])) (h3 := CkZ.le) (fun p h1 h2 => h2.snoc rfl ⟨A, _, c, rfl, rfl, h1⟩) h)
theorem XK.dvAdd {vs : List Dev} {rows : List (List Value)} {d : Dev} {A A' : Option Addr} {c c' : Nat} (h : XK N w0 K e R (dvH (vs ++ [d]) (rows ++ [[.int .i64 d.clock, .int .i64 d.domain, .int .i64 d.reset, .int .u32 d.clamp, .slice A d.regs.length c, .slice A' d.needs.length c']]) :: H)) : XK N w0 K e R (HP.own 68 2 (.slice A d.regs.length c) d.regs.length (d.regs.flatMap Rg.cells) :: HP.own 3 1 (.slice A' d.needs.length c') d.needs.length (intCells d.needs) :: dvH vs rows :: H) :=
 XK.ownPic 0 (Φ := SlP1 2 A d.regs.length (d.regs.flatMap Rg.cells)) (hm := SlP1.le) rfl (fun _ h => h) (XK.ownPic 1 (Φ := SlP1 1 A' d.needs.length (intCells d.needs)) (hm := SlP1.le) rfl (fun _ h => h) (XK.joinPic (X := fun p => SlP1 2 A d.regs.length (d.regs.flatMap Rg.cells) p ∧ SlP1 1 A' d.needs.length (intCells d.needs) p) (h3 := fun p q hl h => ⟨SlP1.le p q hl h.1, SlP1.le p q hl h.2⟩) (fun p h1 h2 => ⟨h1, h2⟩) (XK.joinPic (X := DvZ (vs ++ [d]) (rows ++ [_])) (h3 := DvZ.le) (fun p h1 h2 => h2.snoc rfl ⟨A, _, c, A', _, c', rfl, rfl, rfl, h1.1, h1.2⟩) h)))
end
def ChipO (v : Value) (hs : List HP) (_ : Piece) : Prop := ∃ (s : Soc) (A1 A2 A3 A4 : Option Addr × Nat) (r1 r2 r3 r4 : List (List Value)), v = .agg #[.slice A1.1 s.clocks.length A1.2, .slice A2.1 s.domains.length A2.2, .slice A3.1 s.resets.length A3.2, .slice A4.1 s.devs.length A4.2] ∧ s.made ∧ Rows DomR 3 s.domains r2 ∧ Rows RstR 1 s.resets r3 ∧
 hs = [HP.own 64 6 (.slice A1.1 s.clocks.length A1.2) s.clocks.length r1.flatten, ckH s.clocks r1, HP.own 49 3 (.slice A2.1 s.domains.length A2.2) s.domains.length r2.flatten, HP.own 66 1 (.slice A3.1 s.resets.length A3.2) s.resets.length r3.flatten, HP.own 71 6 (.slice A4.1 s.devs.length A4.2) s.devs.length r4.flatten, dvH s.devs r4]
theorem New.tail {w : World} {p : HP} {hs : List HP} {q : Piece} (h : New w (p :: hs) q) : New w hs q := by
 obtain ⟨F, f1, f2, f3, f4⟩ := h
 exact ⟨fun i => F (i + 1), fun i r hi => f1 (i + 1) r (by simpa using hi), fun i => f2 (i + 1), fun i j b hij => f3 (i + 1) (j + 1) b (by omega), f4⟩
theorem ChipO.weak {w w' : World} {v : Value} {hs : List HP} {q : Piece} (h : ChipO v hs q) (hq : q.w = w') (hn : New w hs q) : ∃ cs s, v = .agg cs ∧ SocR (slq (fresh w w')) s cs ∧ s.made := by
 obtain ⟨s, A1, A2, A3, A4, r1, r2, r3, r4, rfl, hm, h2, h3, rfl⟩ := h
 obtain ⟨F, f1, f2, _⟩ := hn
 subst hq
 have hl : ∀ i, (⟨q.w, F i⟩ : Piece).Le (fresh w q.w) := fun i b hb => ⟨⟨(f2 i b hb).1, (f2 i b hb).2.1⟩, rfl⟩
 have ho : ∀ {i : Nat} {t : TypeId} {sz n c : Nat} {A : Option Addr} {xs : List Value}, (HP.own t sz (.slice A n c) n xs).sat (F i) q.w → SlS (fresh w q.w) sz A n xs := fun {i} _ _ _ _ _ _ hs => (SlS.own (q := ⟨q.w, F i⟩) ⟨F i, hs, fun _ h => h⟩).le (hl i)
 exact ⟨_, s, rfl, ⟨A1.1, _, A1.2, A2.1, _, A2.2, A3.1, _, A3.2, A4.1, _, A4.2, rfl, ⟨r1, CkZ.le _ _ (hl 1) (f1 1 _ rfl), rfl, ho (f1 0 _ rfl)⟩, ⟨r2, h2, rfl, ho (f1 2 _ rfl)⟩, ⟨r3, h3, rfl, ho (f1 3 _ rfl)⟩, ⟨r4, DvZ.le _ _ (hl 5) (f1 5 _ rfl), rfl, ho (f1 4 _ rfl)⟩⟩, hm⟩
end
section
theorem St.chipW {w0 w : World} {R : List Piece} {H : List HP} (st : St w0 R H w) {s : Soc} {A1 A2 A3 A4 : Option Addr} {n1 n2 n3 n4 k1 k2 k3 k4 : Nat} {r1 r2 r3 r4 : List (List Value)} (i1 i2 i3 i4 i5 i6 : Nat) (h1 : H[i1]? = some (HP.own 64 6 (.slice A1 n1 k1) n1 r1.flatten)) (h2 : H[i2]? = some (ckH s.clocks r1)) (h3 : H[i3]? = some (HP.own 49 3 (.slice A2 n2 k2) n2 r2.flatten)) (h4 : H[i4]? = some (HP.own 66 1 (.slice A3 n3 k3) n3 r3.flatten)) (h5 : H[i5]? = some (HP.own 71 6 (.slice A4 n4 k4) n4 r4.flatten)) (h6 : H[i6]? = some (dvH s.devs r4))
  (e1 : n1 = s.clocks.length) (e2 : n2 = s.domains.length) (e3 : n3 = s.resets.length) (e4 : n4 = s.devs.length) (hr2 : Rows DomR 3 s.domains r2) (hr3 : Rows RstR 1 s.resets r3) (hs : s.small) : SocW w s A1 n1 A2 n2 A3 n3 A4 n4 :=
 ⟨⟨r1, st.pic i2 h2, e1, st.slO h1⟩, ⟨r2, hr2, e2, st.slO h3⟩, ⟨r3, hr3, e3, st.slO h4⟩, ⟨r4, st.pic i6 h6, e4, st.slO h5⟩, hs⟩
end
section
section
variable {N : Frm} {w0 : World} {e e' : Env} {R R' R0 : List Piece} {H H' H0 : List HP} {fuel : Nat} {listed : Array Bool} {Q : Exit → Act → World → Prop}
def zMv (ops : Array Oper) : List Nat := (List.range ops.size).filter fun i => match ops[i]? with
 | some o => quietOp o.op || (o.guard.isSome && softOp o.op)
 | none => false
theorem XK.dy {id : Nat} {l : List Oper} (k : XB Tryz.prog N w0 l.toArray Q R H (zMv l.toArray) fuel listed e' R' H') (hk : XB Tryz.prog N w0 l.toArray Q R H (zMv l.toArray) fuel listed e' R' H' → XL 0 N w0 l.toArray Q R H (zMv l.toArray) l.length (Array.replicate l.length false) e R H := by
  intro h
  repeat (first | refine XL.mo ?_ | refine XL.q ?_ | refine XL.qT ?_ | refine XL.qF ?_ | refine XL.qU ?_ | refine XL.s ?_ | refine XL.fi ?_)
  exact h) (hm : Tryz.prog.follows .mixedOrders = true := by kernel_rfl) (hs : Region.noSelect l.toArray = true := by kernel_rfl) : XK N w0 ((Code.region id l.toArray true).wp Tryz.prog Q) e R H := XK.drawB (zMv l.toArray) (hk k) hm hs
end
end
section
set_option maxHeartbeats 4000000
set_option maxRecDepth 20000
theorem pick18_any (c n : Int) (w : World) (hc : -9223372036854775808 ≤ c ∧ c ≤ 9223372036854775807) (hn : 0 < n) :
  Calls Tryz.prog 9 #[.int .i64 c, .int .i64 n] w fun x w' => (∃ v, x = .returned v ∧ ∃ r : Int, v = .int .i64 r ∧ 0 ≤ r ∧ r < n) ∧ Below w.heap.size w w' := by
 refine XK.enter (vs := [.int .i64 c, .int .i64 n]) Tryz.func9 rfl Tryz.ntmps9 (by simp) ?_
 refine XK.gw ?_
 refine XK.cu (α := Int) (fun c => [(0, .int .i64 c), (1, .int .i64 n)]) (fun _ => []) (fun c => 0 ≤ c) ?_ fun c hc0 => ?_
 ·refine XK.gw ?_
  refine XK.if_ rfl (fun h => ?_) (fun h => ?_)
  ·refine XK.gw ?_
   exact XK.mt _
  ·refine XK.gw ?_
   exact XK.mt _
 refine XK.gw ?_
 exact XK.ret1 rfl rfl fun w' st => ⟨⟨_, rfl, _, rfl, Int.emod_nonneg _ (by omega), Int.emod_lt_of_pos _ hn⟩, st.below (by simp)⟩
set_option maxRecDepth 100000 in
theorem chip18_own (A : Option Addr) (n c : Nat) (zs : List Int) (w : World) (h0 : SlS (all w) 1 A n (intCells zs)) (hz : I64s zs) (hn : n = zs.length) (hn2 : n ≤ 9223372036854775807) :
    Calls Tryz.prog 5 #[.slice A n c] w fun x w' => (∃ v hs q, x = .returned v ∧ q.w = w' ∧ (∃ p hs', hs = p :: hs' ∧ ChipO v hs' q) ∧ New w hs q) ∧ Below w.heap.size w w' := by
  refine XK.enter (vs := [.slice A n c]) Tryz.func5 rfl Tryz.ntmps5 (by simp) ?_
  refine XK.gw ?_
  refine kal fun g1 => ?_
  refine XK.gw ?_
  refine xk_makeT 8 (n := 120) (el := 3) (z := .int .i64 0) (by kernel_rfl) (by kernel_rfl) rfl rfl rfl (by omega) (by omega) (by decide) fun g2 => ?_
  refine XK.gw ?_
  refine XK.cb (α := List Int) (fun _ => [(4, .slice (some ⟨g2, 0, none⟩) 120 120), (2, .pointer (some ⟨g1, 0, none⟩))]) (fun ds => [HP.blk g2 3 (intCells ds), HP.blk g1 34 [.slice none 0 0, .slice none 0 0, .slice none 0 0, .slice none 0 0]]) Draw ?_ fun ds hd => ?_
  · refine XK.lp (α := List Int) (fun i _ => [(5, .int .i64 i), (4, .slice (some ⟨g2, 0, none⟩) 120 120), (2, .pointer (some ⟨g1, 0, none⟩)), (0, .slice A n c)]) (fun _ ds => [HP.blk g2 3 (intCells ds), HP.blk g1 34 [.slice none 0 0, .slice none 0 0, .slice none 0 0, .slice none 0 0]]) (fun _ ds => Draw ds) 120 (List.replicate 120 0) Draw.zero fun k ds hk hd => ?_
    refine XK.gw ?_
    refine xk_split (t := 23) rfl (fun hg => ?_) (fun hg => ?_)
    · refine XK.gw ?_
      refine XK.if_ rfl (fun h => ?_) (fun h => ?_)
      · have hk2 : k < 120 := by omega
        have hn0 : 0 < n := by omega
        obtain ⟨b, off, rfl, hzb, hc⟩ := h0.2 hn0
        have hkb := emod_bd (k : Int) (n := (n : Int)) (by omega)
        have hdb : 0 ≤ (k : Int) / (n : Int) ∧ (k : Int) / (n : Int) ≤ k := ⟨Int.ediv_nonneg (by omega) (by omega), Int.ediv_le_self _ (by omega)⟩
        have k0 : ROc w b (off + ((k : Int) % (n : Int)).toNat) (.int .i64 (zs[((k : Int) % (n : Int)).toNat]?.getD 0)) := ⟨hzb, hc _ _ (intCells_get zs _ (by omega))⟩
        have hyb := tdiv_bd (z := zs[((k : Int) % (n : Int)).toNat]?.getD 0) (d := 1 + (k : Int) / (n : Int)) (lo := -9223372036854775808) (hi := 9223372036854775807) (by omega) (by omega) (by omega) (hz _)
        refine XK.gw ?_
        refine XK.dr ?_
        refine XB.nx 15 ?_
        refine xk_callV (f := 9) (fi := []) (ca := []) (by kernel_rfl) rfl rfl (by decide) (fun v => ∃ r : Int, v = .int .i64 r ∧ 0 ≤ r ∧ r < 1000000) (fun w1 st => pick18_any _ _ w1 hyb (by omega)) fun v hv => ?_
        obtain ⟨r, rfl, hr0, hr1⟩ := hv
        refine XB.bk ?_
        refine XB.tl [16, 17] ?_
        refine XK.gw ?_
        refine kst rfl rfl ?_ (hs := StoreAt.mk 0 rfl OneT.h rfl (by simp [intCells, hd.1]; omega))
        dsimp only [List.set]
        rw [intCells_set]
        refine XK.gw ?_
        exact XK.ag _ (hg := hd.set_ k hr0 hr1)
      · refine XK.gw ?_
        exact XK.mt _
    · refine XK.gw ?_
      exact XK.mt _
  refine XK.gw ?_
  refine ksl fun g3 => ?_
  refine XK.gw ?_
  refine kal fun g4 => ?_
  refine XK.gw ?_
  refine XK.asOwn 1 6 1 rfl rfl (by omega) ?_
  dsimp only [List.set]
  refine XK.emp0 (p := ckH [⟨111, [], 1 + dv ds 0 % 1000000, 0, 0, 0⟩] [[.int .u8 111, .slice none 0 0, .int .u64 (1 + dv ds 0 % 1000000), .int .i64 0, .int .i64 0, .int .i64 0]]) (fun w => ⟨rfl, ⟨none, 0, 0, rfl, rfl, rfl, fun h => absurd h (by omega)⟩, trivial⟩) ?_
  refine XK.cb (α := (List Clk × List (List Value)) × (Option Addr × Nat) × Nat) (fun _ => [(6, .pointer (some ⟨g4, 0, none⟩)), (4, .slice (some ⟨g2, 0, none⟩) 120 120), (2, .pointer (some ⟨g1, 0, none⟩))]) (fun x => [ckH x.1.1 x.1.2, HP.own 64 6 (.slice x.2.1.1 x.2.2 x.2.1.2) x.2.2 x.1.2.flatten, HP.blk g4 34 [.slice x.2.1.1 x.2.2 x.2.1.2, .slice none 0 0, .slice none 0 0, .slice none 0 0], HP.blk g2 3 (intCells ds), HP.blk g1 34 [.slice none 0 0, .slice none 0 0, .slice none 0 0, .slice none 0 0]]) (fun x => x.1.1.length = x.2.2 ∧ 1 ≤ x.2.2 ∧ x.2.2 ≤ 9 ∧ Fits Clk.fit x.1.1) ?_ fun x hx => ?_
  · refine XK.lp (α := (List Clk × List (List Value)) × (Option Addr × Nat) × List Value) (fun i _ => [(8, .int .i64 i), (7, .string ⟨#[112, 100, 103, 109, 103]⟩), (6, .pointer (some ⟨g4, 0, none⟩)), (4, .slice (some ⟨g2, 0, none⟩) 120 120), (3, .int .i64 1), (2, .pointer (some ⟨g1, 0, none⟩))]) (fun i x => [ckH x.1.1 x.1.2, HP.own 64 6 (.slice x.2.1.1 (i + 1) x.2.1.2) (i + 1) x.2.2, HP.blk g4 34 [.slice x.2.1.1 (i + 1) x.2.1.2, .slice none 0 0, .slice none 0 0, .slice none 0 0], HP.blk g2 3 (intCells ds), HP.blk g1 34 [.slice none 0 0, .slice none 0 0, .slice none 0 0, .slice none 0 0]]) (fun i x => x.1.1.length = i + 1 ∧ i ≤ 8 ∧ Fits Clk.fit x.1.1 ∧ x.2.2 = x.1.2.flatten) 9 (([⟨111, [], 1 + dv ds 0 % 1000000, 0, 0, 0⟩], [[.int .u8 111, .slice none 0 0, .int .u64 (1 + dv ds 0 % 1000000), .int .i64 0, .int .i64 0, .int .i64 0]]), (_, _), _) ⟨rfl, by omega, (Fits.nil Clk.fit).snoc ⟨by simp, .inl ⟨rfl, rfl, by dsimp only; omega, by dsimp only; omega, rfl, rfl, rfl⟩⟩, rfl⟩ fun i x hi hx => ?_
    obtain ⟨⟨cs, rows⟩, ⟨B, cB⟩, xs⟩ := x
    dsimp only at hx ⊢
    obtain ⟨hcl, hi8, hcf, rfl⟩ := hx
    refine XK.gw ?_
    refine XK.if_ rfl (fun h => ?_) (fun h => ?_)
    · obtain ⟨kb, hkb, hkb2⟩ := kinds_at (q := (dv ds (10 + 3 * (i : Int)).toNat % 1000000 % 5).toNat) (by omega)
      have f0 := emod_bd (dv ds ((10 + 3 * (i : Int)) + 1).toNat % 1000000) (n := ((i + 1 : Nat) : Int)) (by omega)
      refine XK.gw ?_
      refine XK.cu (α := Nat × Nat) (fun x => [(10, .pointer (some ⟨x.2, 0, none⟩)), (9, .int .i64 (10 + 3 * (i : Int))), (8, .int .i64 i), (7, .string ⟨#[112, 100, 103, 109, 103]⟩), (6, .pointer (some ⟨g4, 0, none⟩)), (4, .slice (some ⟨g2, 0, none⟩) 120 120), (3, .int .i64 1), (2, .pointer (some ⟨g1, 0, none⟩))]) (fun x => [HP.blk x.2 64 [.int .u8 kb.toNat, .slice (some ⟨x.1, 0, none⟩) 1 1, .int .u64 0, .int .i64 0, .int .i64 0, .int .i64 0], HP.blk x.1 3 [.int .i64 (dv ds ((10 + 3 * (i : Int)) + 1).toNat % 1000000 % ((i + 1 : Nat) : Int))], ckH cs rows, HP.own 64 6 (.slice B (i + 1) cB) (i + 1) rows.flatten, HP.blk g4 34 [.slice B (i + 1) cB, .slice none 0 0, .slice none 0 0, .slice none 0 0], HP.blk g2 3 (intCells ds), HP.blk g1 34 [.slice none 0 0, .slice none 0 0, .slice none 0 0, .slice none 0 0]]) (fun _ => True) ?_ fun x _ => ?_
      · refine XK.dr ?_
        refine XB.either 16 18 rfl rfl (by kernel_rfl) ?_ ?_
        · refine ksl fun g5 => ?_
          refine XB.bk ?_
          refine XB.qz 17 ?_
          refine XB.nx 18 ?_
          refine kal fun g6 => ?_
          refine XB.bk ?_
          refine XB.tl [19] ?_
          refine XK.gw ?_
          exact XK.mt (_, _)
        · refine kal fun g6 => ?_
          refine XB.bk ?_
          refine XB.nx 16 ?_
          refine ksl fun g5 => ?_
          refine XB.bk ?_
          refine XB.qz 17 ?_
          refine XB.tl [19] ?_
          refine kcons ?_
          refine kstW 1 rfl ?_
          dsimp only [List.set]
          refine XK.gw ?_
          exact XK.mt (_, _)
      obtain ⟨g5, g6⟩ := x
      dsimp only
      have f1 := emod_bd (dv ds ((10 + 3 * (i : Int)) + 2).toNat % 1000000) (n := ((i + 1 : Nat) : Int)) (by omega)
      refine XK.asOwn 1 1 1 rfl rfl (by omega) ?_
      dsimp only [List.set]
      refine XK.gw ?_
      refine XK.cb (α := Clk × (Option Addr × Nat)) (fun _ => [(10, .pointer (some ⟨g6, 0, none⟩)), (8, .int .i64 i), (7, .string ⟨#[112, 100, 103, 109, 103]⟩), (6, .pointer (some ⟨g4, 0, none⟩)), (4, .slice (some ⟨g2, 0, none⟩) 120 120), (3, .int .i64 1), (2, .pointer (some ⟨g1, 0, none⟩))]) (fun x => [HP.blk g6 64 [.int .u8 x.1.kind, .slice x.2.1 x.1.src.length x.2.2, .int .u64 x.1.rate, .int .i64 x.1.mul, .int .i64 x.1.div, .int .i64 x.1.lock], HP.own 3 1 (.slice x.2.1 x.1.src.length x.2.2) x.1.src.length (intCells x.1.src), ckH cs rows, HP.own 64 6 (.slice B (i + 1) cB) (i + 1) rows.flatten, HP.blk g4 34 [.slice B (i + 1) cB, .slice none 0 0, .slice none 0 0, .slice none 0 0], HP.blk g2 3 (intCells ds), HP.blk g1 34 [.slice none 0 0, .slice none 0 0, .slice none 0 0, .slice none 0 0]])  (fun x => x.1.fit (i + 1)) ?_ fun x hx => ?_
      · refine XK.if_ rfl (fun h1 => ?_) (fun h1 => ?_)
        · refine XK.gw ?_
          exact XK.mt (⟨_, [dv ds ((10 + 3 * (i : Int)) + 1).toNat % 1000000 % ((i + 1 : Nat) : Int)], _, _, _, _⟩, _, _) (hg := ⟨(fun f hf => by rcases List.mem_singleton.1 hf with rfl; exact f0), .inr (.inl ⟨h1, rfl, rfl, by dsimp only; omega, by dsimp only; omega, by dsimp only; omega, by dsimp only; omega, by dsimp only; omega, by dsimp only; omega⟩)⟩)
        refine XK.gw ?_
        refine XK.if_ rfl (fun h2 => ?_) (fun h2 => ?_)
        · refine XK.gw ?_
          exact XK.mt (⟨_, [dv ds ((10 + 3 * (i : Int)) + 1).toNat % 1000000 % ((i + 1 : Nat) : Int)], _, _, _, _⟩, _, _) (hg := ⟨(fun f hf => by rcases List.mem_singleton.1 hf with rfl; exact f0), .inr (.inr (.inl ⟨h2, rfl, rfl, rfl, by dsimp only; omega, by dsimp only; omega, rfl⟩))⟩)
        refine XK.gw ?_
        refine XK.if_ rfl (fun h3 => ?_) (fun h3 => ?_)
        · refine XK.dr ?_
          refine XB.nx 11 ?_
          refine ksl fun g7 => ?_
          refine XB.bk ?_
          refine XB.tl [12, 13, 14] ?_
          refine XK.gw ?_
          refine kap 2 fun A' k' => ?_
          dsimp only [List.set]
          refine XK.gw ?_
          exact XK.mt (⟨_, [dv ds ((10 + 3 * (i : Int)) + 1).toNat % 1000000 % ((i + 1 : Nat) : Int), dv ds ((10 + 3 * (i : Int)) + 2).toNat % 1000000 % ((i + 1 : Nat) : Int)], _, _, _, _⟩, _, _) (hg := ⟨(fun f hf => by simp only [List.mem_cons, List.not_mem_nil, or_false] at hf; rcases hf with rfl | rfl; exact f0; exact f1), .inr (.inr (.inr (.inr ⟨h3, rfl, rfl, rfl, rfl, rfl⟩)))⟩)
        · refine XK.gw ?_
          exact XK.mt (⟨_, [dv ds ((10 + 3 * (i : Int)) + 1).toNat % 1000000 % ((i + 1 : Nat) : Int)], _, _, _, _⟩, _, _) (hg := ⟨(fun f hf => by rcases List.mem_singleton.1 hf with rfl; exact f0), .inr (.inr (.inr (.inl ⟨by rcases hkb2 with h | h | h | h <;> simp_all, rfl, rfl, rfl, rfl, rfl⟩)))⟩)
      obtain ⟨cl, Af, cf⟩ := x
      dsimp only at hx ⊢
      refine XK.gw ?_
      refine ksl fun g7 => ?_
      refine XK.gw ?_
      refine kap 4 fun A' k' => ?_
      dsimp only [List.set]
      refine XK.gw ?_
      refine XK.weak [2, 3, 4, 5, 6, 7] rfl (by decide) (fun _ h => h) ?_
      refine XK.ckAdd ?_
      exact XK.ag ((_, _), (_, _), _) (hg := ⟨by simp [hcl], by omega, hcf.snoc (by rw [hcl]; exact hx), by simp⟩)
    · refine XK.gw ?_
      exact XK.mt ((_, _), (_, _), _) (hg := ⟨hcl, Nat.succ_pos i, Nat.succ_le_succ hi8, hcf⟩)
  obtain ⟨⟨cs, rows⟩, ⟨B, cB⟩, nc⟩ := x
  dsimp only at hx ⊢
  obtain ⟨hcl, hc1, hc9, hcf⟩ := hx
  refine XK.gw ?_
  refine XK.nilrow 49 3 ?_
  refine XK.cb (α := (List Dom × List (List Value)) × (Option Addr × Nat) × Nat) (fun _ => [(6, .pointer (some ⟨g4, 0, none⟩)), (4, .slice (some ⟨g2, 0, none⟩) 120 120), (2, .pointer (some ⟨g1, 0, none⟩))]) (fun x => [HP.own 49 3 (.slice x.2.1.1 x.2.2 x.2.1.2) x.2.2 x.1.2.flatten, ckH cs rows, HP.own 64 6 (.slice B nc cB) nc rows.flatten, HP.blk g4 34 [.slice B nc cB, .slice x.2.1.1 x.2.2 x.2.1.2, .slice none 0 0, .slice none 0 0], HP.blk g2 3 (intCells ds), HP.blk g1 34 [.slice none 0 0, .slice none 0 0, .slice none 0 0, .slice none 0 0]]) (fun x => x.1.1.length = x.2.2 ∧ 1 ≤ x.2.2 ∧ x.2.2 ≤ 4 ∧ Fits Dom.fit x.1.1 ∧ Rows DomR 3 x.1.1 x.1.2) ?_ fun x hx => ?_
  · refine XK.lp (α := (List Dom × List (List Value)) × (Option Addr × Nat) × List Value) (fun i _ => [(11, .int .i64 i), (6, .pointer (some ⟨g4, 0, none⟩)), (4, .slice (some ⟨g2, 0, none⟩) 120 120), (2, .pointer (some ⟨g1, 0, none⟩))]) (fun i x => [HP.own 49 3 (.slice x.2.1.1 i x.2.1.2) i x.2.2, ckH cs rows, HP.own 64 6 (.slice B nc cB) nc rows.flatten, HP.blk g4 34 [.slice B nc cB, .slice x.2.1.1 i x.2.1.2, .slice none 0 0, .slice none 0 0], HP.blk g2 3 (intCells ds), HP.blk g1 34 [.slice none 0 0, .slice none 0 0, .slice none 0 0, .slice none 0 0]]) (fun i x => x.1.1.length = i ∧ Fits Dom.fit x.1.1 ∧ Rows DomR 3 x.1.1 x.1.2 ∧ x.2.2 = x.1.2.flatten) 4 (([], []), (none, 0), []) ⟨rfl, Fits.nil _, trivial, rfl⟩ fun i x hi hx => ?_
    obtain ⟨⟨dm, drs⟩, ⟨D, cD⟩, xs⟩ := x
    dsimp only at hx ⊢
    obtain ⟨hdl, hdf, hdr, rfl⟩ := hx
    refine XK.gw ?_
    refine XK.if_ rfl (fun h => ?_) (fun h => ?_)
    · refine XK.gw ?_
      refine XK.dr ?_
      refine XB.nx 15 ?_
      refine kal fun g5 => ?_
      refine XB.bk ?_
      refine XB.tl [16] ?_
      refine kcons ?_
      refine kstW 0 rfl ?_
      dsimp only [List.set]
      refine knil ?_
      refine XK.thenN ?_
      refine XK.ct (α := Int) (fun _ => [(12, .pointer (some ⟨g5, 0, none⟩)), (11, .int .i64 i), (6, .pointer (some ⟨g4, 0, none⟩)), (4, .slice (some ⟨g2, 0, none⟩) 120 120), (2, .pointer (some ⟨g1, 0, none⟩))]) (fun v => [HP.blk g5 49 [.int .i64 v, .int .i64 (dv ds (40 + (i : Int)).toNat % 4), .bool (decide (dv ds (40 + (i : Int)).toNat % 1000000 / 4 % 2 = 1))], HP.own 49 3 (.slice D i cD) i drs.flatten, ckH cs rows, HP.own 64 6 (.slice B nc cB) nc rows.flatten, HP.blk g4 34 [.slice B nc cB, .slice D i cD, .slice none 0 0, .slice none 0 0], HP.blk g2 3 (intCells ds), HP.blk g1 34 [.slice none 0 0, .slice none 0 0, .slice none 0 0, .slice none 0 0]]) (fun v => v = -1 ∨ (0 ≤ v ∧ v < i)) ?_ fun v hv => ?_
      · refine XK.gw ?_
        refine xk_split (t := 172) rfl (fun hg => ?_) (fun hg => ?_)
        · have f2 := emod_bd (dv ds (44 + (i : Int)).toNat % 1000000 / 3) (n := (i : Int)) hg
          refine XK.gw ?_
          refine XK.if_ rfl (fun h3 => ?_) (fun h3 => ?_)
          · refine XK.gw ?_
            exact XK.mt _ (hg := .inr f2)
          · refine XK.gw ?_
            exact XK.mt _ (hg := .inl rfl)
        · refine XK.gw ?_
          exact XK.mt _ (hg := .inl rfl)
      refine XK.gw ?_
      refine ksl fun g7 => ?_
      refine XK.gw ?_
      refine kap 2 fun A' k' => ?_
      dsimp only [List.set]
      refine XK.gw ?_
      exact XK.ag ((dm ++ [⟨v, dv ds (40 + (i : Int)).toNat % 4, decide (dv ds (40 + (i : Int)).toNat % 1000000 / 4 % 2 = 1)⟩], drs ++ [_]), (_, _), _) (hg := ⟨by simp [hdl], hdf.snoc ⟨by rw [hdl]; exact hv, by dsimp only; omega, by dsimp only; omega⟩, hdr.snoc rfl rfl, by simp⟩)
    · refine XK.gw ?_
      exact XK.mt ((_, _), (_, _), _) (hg := ⟨hdl, by show 1 ≤ i; omega, hi, hdf, hdr⟩)
  obtain ⟨⟨dm, drs⟩, ⟨D, cD⟩, nd⟩ := x
  dsimp only at hx ⊢
  obtain ⟨hdl, hd1, hd4, hdf, hdr⟩ := hx
  refine XK.gw ?_
  refine XK.nilrow 66 1 ?_
  refine XK.cb (α := (List Int × List (List Value)) × (Option Addr × Nat) × Nat) (fun _ => [(6, .pointer (some ⟨g4, 0, none⟩)), (4, .slice (some ⟨g2, 0, none⟩) 120 120), (2, .pointer (some ⟨g1, 0, none⟩))]) (fun x => [HP.own 66 1 (.slice x.2.1.1 x.2.2 x.2.1.2) x.2.2 x.1.2.flatten, HP.own 49 3 (.slice D nd cD) nd drs.flatten, ckH cs rows, HP.own 64 6 (.slice B nc cB) nc rows.flatten, HP.blk g4 34 [.slice B nc cB, .slice D nd cD, .slice x.2.1.1 x.2.2 x.2.1.2, .slice none 0 0], HP.blk g2 3 (intCells ds), HP.blk g1 34 [.slice none 0 0, .slice none 0 0, .slice none 0 0, .slice none 0 0]]) (fun x => x.1.1.length = x.2.2 ∧ 1 ≤ x.2.2 ∧ x.2.2 ≤ 3 ∧ (∀ r ∈ x.1.1, 0 ≤ r ∧ r ≤ 3) ∧ Rows RstR 1 x.1.1 x.1.2) ?_ fun x hx => ?_
  · refine XK.lp (α := (List Int × List (List Value)) × (Option Addr × Nat) × List Value) (fun i _ => [(13, .int .i64 i), (6, .pointer (some ⟨g4, 0, none⟩)), (4, .slice (some ⟨g2, 0, none⟩) 120 120), (2, .pointer (some ⟨g1, 0, none⟩))]) (fun i x => [HP.own 66 1 (.slice x.2.1.1 i x.2.1.2) i x.2.2, HP.own 49 3 (.slice D nd cD) nd drs.flatten, ckH cs rows, HP.own 64 6 (.slice B nc cB) nc rows.flatten, HP.blk g4 34 [.slice B nc cB, .slice D nd cD, .slice x.2.1.1 i x.2.1.2, .slice none 0 0], HP.blk g2 3 (intCells ds), HP.blk g1 34 [.slice none 0 0, .slice none 0 0, .slice none 0 0, .slice none 0 0]]) (fun i x => x.1.1.length = i ∧ (∀ r ∈ x.1.1, 0 ≤ r ∧ r ≤ 3) ∧ Rows RstR 1 x.1.1 x.1.2 ∧ x.2.2 = x.1.2.flatten) 3 (([], []), (none, 0), []) ⟨rfl, by simp, trivial, rfl⟩ fun i x hi hx => ?_
    obtain ⟨⟨rs, rrs⟩, ⟨L, cL⟩, xs⟩ := x
    dsimp only at hx ⊢
    obtain ⟨hrl, hrf, hrr, rfl⟩ := hx
    refine XK.gw ?_
    refine XK.if_ rfl (fun h => ?_) (fun h => ?_)
    · refine XK.gw ?_
      refine XK.dr ?_
      refine XB.nx 9 ?_
      refine ksl fun g7 => ?_
      refine XB.bk ?_
      refine XB.tl [10, 11, 12] ?_
      refine XK.gw ?_
      refine kap 1 fun A' k' => ?_
      dsimp only [List.set]
      refine XK.gw ?_
      exact XK.ag ((rs ++ [dv ds (50 + (i : Int)).toNat % 4], rrs ++ [_]), (_, _), _) (hg := ⟨by simp [hrl], (fun r hr => by
        rcases List.mem_append.1 hr with hr | hr
        · exact hrf r hr
        · rcases List.mem_singleton.1 hr with rfl
          omega), hrr.snoc rfl rfl, by simp⟩)
    · refine XK.gw ?_
      exact XK.mt ((_, _), (_, _), _) (hg := ⟨hrl, by show 1 ≤ i; omega, hi, hrf, hrr⟩)
  obtain ⟨⟨rs, rrs⟩, ⟨L, cL⟩, nr⟩ := x
  dsimp only at hx ⊢
  obtain ⟨hrl, hr1, hr3, hrf, hrr⟩ := hx
  refine XK.gw ?_
  refine XK.nilrow 71 6 ?_
  refine XK.emp0 (p := dvH [] []) (fun w => trivial) ?_
  refine XK.cb (α := (List Dev × List (List Value)) × (Option Addr × Nat) × Nat) (fun _ => [(6, .pointer (some ⟨g4, 0, none⟩)), (4, .slice (some ⟨g2, 0, none⟩) 120 120), (2, .pointer (some ⟨g1, 0, none⟩))]) (fun x => [dvH x.1.1 x.1.2, HP.own 71 6 (.slice x.2.1.1 x.2.2 x.2.1.2) x.2.2 x.1.2.flatten, HP.own 66 1 (.slice L nr cL) nr rrs.flatten, HP.own 49 3 (.slice D nd cD) nd drs.flatten, ckH cs rows, HP.own 64 6 (.slice B nc cB) nc rows.flatten, HP.blk g4 34 [.slice B nc cB, .slice D nd cD, .slice L nr cL, .slice x.2.1.1 x.2.2 x.2.1.2], HP.blk g2 3 (intCells ds), HP.blk g1 34 [.slice none 0 0, .slice none 0 0, .slice none 0 0, .slice none 0 0]]) (fun x => x.1.1.length = x.2.2 ∧ 1 ≤ x.2.2 ∧ x.2.2 ≤ 4 ∧ Fits (Dev.fit nc nd nr) x.1.1) ?_ fun x hx => ?_
  · refine XK.lp (α := (List Dev × List (List Value)) × (Option Addr × Nat) × List Value) (fun i _ => [(14, .int .i64 i), (6, .pointer (some ⟨g4, 0, none⟩)), (4, .slice (some ⟨g2, 0, none⟩) 120 120), (2, .pointer (some ⟨g1, 0, none⟩))]) (fun i x => [dvH x.1.1 x.1.2, HP.own 71 6 (.slice x.2.1.1 i x.2.1.2) i x.2.2, HP.own 66 1 (.slice L nr cL) nr rrs.flatten, HP.own 49 3 (.slice D nd cD) nd drs.flatten, ckH cs rows, HP.own 64 6 (.slice B nc cB) nc rows.flatten, HP.blk g4 34 [.slice B nc cB, .slice D nd cD, .slice L nr cL, .slice x.2.1.1 i x.2.1.2], HP.blk g2 3 (intCells ds), HP.blk g1 34 [.slice none 0 0, .slice none 0 0, .slice none 0 0, .slice none 0 0]]) (fun i x => x.1.1.length = i ∧ Fits (Dev.fit nc nd nr) x.1.1 ∧ x.2.2 = x.1.2.flatten) 4 (([], []), (none, 0), []) ⟨rfl, Fits.nil _, rfl⟩ fun i x hi hx => ?_
    obtain ⟨⟨vs, r4⟩, ⟨V, cV⟩, xs⟩ := x
    dsimp only at hx ⊢
    obtain ⟨hvl, hvf, rfl⟩ := hx
    refine XK.gw ?_
    refine XK.if_ rfl (fun h => ?_) (fun h => ?_)
    · have q0 := emod_bd (dv ds (60 + 12 * (i : Int)).toNat % 1000000) (n := (nc : Int)) (by omega)
      have q1 := emod_bd (dv ds (60 + 12 * (i : Int) + 1).toNat % 1000000) (n := (nd : Int)) (by omega)
      have q2 := emod_bd (dv ds (60 + 12 * (i : Int) + 2).toNat % 1000000) (n := (nr : Int)) (by omega)
      refine XK.gw ?_
      refine XK.dr ?_
      refine XB.nx 34 ?_
      refine kal fun g5 => ?_
      refine XB.bk ?_
      refine XB.tl [35] ?_
      refine XK.gw ?_
      refine XK.nilrow 68 2 ?_
      refine XK.cb (α := List Rg × (Option Addr × Nat) × Nat) (fun _ => [(16, .pointer (some ⟨g5, 0, none⟩)), (15, .int .i64 (60 + 12 * (i : Int))), (14, .int .i64 i), (6, .pointer (some ⟨g4, 0, none⟩)), (4, .slice (some ⟨g2, 0, none⟩) 120 120), (2, .pointer (some ⟨g1, 0, none⟩))]) (fun x => [HP.own 68 2 (.slice x.2.1.1 x.2.2 x.2.1.2) x.2.2 (x.1.flatMap Rg.cells), HP.blk g5 71 [.int .i64 (dv ds (60 + 12 * (i : Int)).toNat % 1000000 % (nc : Int)), .int .i64 (dv ds (60 + 12 * (i : Int) + 1).toNat % 1000000 % (nd : Int)), .int .i64 (dv ds (60 + 12 * (i : Int) + 2).toNat % 1000000 % (nr : Int)), .int .u32 (dv ds (60 + 12 * (i : Int) + 3).toNat % 1000000 % 3), .slice x.2.1.1 x.2.2 x.2.1.2, .slice none 0 0], dvH vs r4, HP.own 71 6 (.slice V i cV) i r4.flatten, HP.own 66 1 (.slice L nr cL) nr rrs.flatten, HP.own 49 3 (.slice D nd cD) nd drs.flatten, ckH cs rows, HP.own 64 6 (.slice B nc cB) nc rows.flatten, HP.blk g4 34 [.slice B nc cB, .slice D nd cD, .slice L nr cL, .slice V i cV], HP.blk g2 3 (intCells ds), HP.blk g1 34 [.slice none 0 0, .slice none 0 0, .slice none 0 0, .slice none 0 0]]) (fun x => x.1.length = x.2.2 ∧ x.2.2 ≤ 4 ∧ ∀ r ∈ x.1, 0 ≤ r.reset ∧ r.reset ≤ 6) ?_ fun x hx => ?_
      · refine XK.lp (α := List Rg × (Option Addr × Nat) × List Value) (fun j _ => [(17, .int .i64 j), (16, .pointer (some ⟨g5, 0, none⟩)), (15, .int .i64 (60 + 12 * (i : Int))), (14, .int .i64 i), (6, .pointer (some ⟨g4, 0, none⟩)), (4, .slice (some ⟨g2, 0, none⟩) 120 120), (2, .pointer (some ⟨g1, 0, none⟩))]) (fun j x => [HP.own 68 2 (.slice x.2.1.1 j x.2.1.2) j x.2.2, HP.blk g5 71 [.int .i64 (dv ds (60 + 12 * (i : Int)).toNat % 1000000 % (nc : Int)), .int .i64 (dv ds (60 + 12 * (i : Int) + 1).toNat % 1000000 % (nd : Int)), .int .i64 (dv ds (60 + 12 * (i : Int) + 2).toNat % 1000000 % (nr : Int)), .int .u32 (dv ds (60 + 12 * (i : Int) + 3).toNat % 1000000 % 3), .slice x.2.1.1 j x.2.1.2, .slice none 0 0], dvH vs r4, HP.own 71 6 (.slice V i cV) i r4.flatten, HP.own 66 1 (.slice L nr cL) nr rrs.flatten, HP.own 49 3 (.slice D nd cD) nd drs.flatten, ckH cs rows, HP.own 64 6 (.slice B nc cB) nc rows.flatten, HP.blk g4 34 [.slice B nc cB, .slice D nd cD, .slice L nr cL, .slice V i cV], HP.blk g2 3 (intCells ds), HP.blk g1 34 [.slice none 0 0, .slice none 0 0, .slice none 0 0, .slice none 0 0]]) (fun j x => x.1.length = j ∧ (∀ r ∈ x.1, 0 ≤ r.reset ∧ r.reset ≤ 6) ∧ x.2.2 = x.1.flatMap Rg.cells) 4 ([], (none, 0), []) ⟨rfl, by simp, rfl⟩ fun j x hj hx => ?_
        obtain ⟨rg, ⟨W, cW⟩, xs⟩ := x
        dsimp only at hx ⊢
        obtain ⟨hgl, hgf, rfl⟩ := hx
        refine XK.gw ?_
        refine XK.if_ rfl (fun h5 => ?_) (fun h5 => ?_)
        · refine XK.gw ?_
          refine XK.dr ?_
          refine XB.nx 22 ?_
          refine ksl fun g7 => ?_
          refine XB.bk ?_
          refine XB.tl [23, 24, 25] ?_
          refine XK.gw ?_
          refine kap 1 fun A' k' => ?_
          dsimp only [List.set]
          refine XK.gw ?_
          exact XK.ag (rg ++ [⟨dv ds (60 + 12 * (i : Int) + 5 + (j : Int)).toNat % 1000000 % 7, decide (dv ds (60 + 12 * (i : Int) + 5 + (j : Int)).toNat % 1000000 / 7 % 2 = 0)⟩], (_, _), _) (hg := ⟨by simp [hgl], (fun r hr => by
            rcases List.mem_append.1 hr with hr | hr
            · exact hgf r hr
            · rcases List.mem_singleton.1 hr with rfl
              dsimp only
              omega), by simp [Rg.cells]⟩)
        · refine XK.gw ?_
          exact XK.mt (_, (_, _), _) (hg := ⟨hgl, hj, hgf⟩)
      obtain ⟨rg, ⟨W, cW⟩, ng⟩ := x
      dsimp only at hx ⊢
      obtain ⟨rfl, hg4, hgf⟩ := hx
      refine XK.nilrow 3 1 ?_
      refine XK.ct (α := (List Int × List Value) × (Option Addr × Nat) × Nat) (fun _ => [(16, .pointer (some ⟨g5, 0, none⟩)), (15, .int .i64 (60 + 12 * (i : Int))), (14, .int .i64 i), (6, .pointer (some ⟨g4, 0, none⟩)), (4, .slice (some ⟨g2, 0, none⟩) 120 120), (2, .pointer (some ⟨g1, 0, none⟩))]) (fun x => [HP.own 3 1 (.slice x.2.1.1 x.2.2 x.2.1.2) x.2.2 x.1.2, HP.own 68 2 (.slice W rg.length cW) rg.length (rg.flatMap Rg.cells), HP.blk g5 71 [.int .i64 (dv ds (60 + 12 * (i : Int)).toNat % 1000000 % (nc : Int)), .int .i64 (dv ds (60 + 12 * (i : Int) + 1).toNat % 1000000 % (nd : Int)), .int .i64 (dv ds (60 + 12 * (i : Int) + 2).toNat % 1000000 % (nr : Int)), .int .u32 (dv ds (60 + 12 * (i : Int) + 3).toNat % 1000000 % 3), .slice W rg.length cW, .slice x.2.1.1 x.2.2 x.2.1.2], dvH vs r4, HP.own 71 6 (.slice V i cV) i r4.flatten, HP.own 66 1 (.slice L nr cL) nr rrs.flatten, HP.own 49 3 (.slice D nd cD) nd drs.flatten, ckH cs rows, HP.own 64 6 (.slice B nc cB) nc rows.flatten, HP.blk g4 34 [.slice B nc cB, .slice D nd cD, .slice L nr cL, .slice V i cV], HP.blk g2 3 (intCells ds), HP.blk g1 34 [.slice none 0 0, .slice none 0 0, .slice none 0 0, .slice none 0 0]]) (fun x => x.1.1.length = x.2.2 ∧ x.2.2 ≤ 1 ∧ x.1.2 = intCells x.1.1 ∧ ∀ f ∈ x.1.1, 0 ≤ f ∧ f < i) ?_ fun x hx => ?_
      · refine XK.gw ?_
        refine xk_split (t := 300) rfl (fun hg => ?_) (fun hg => ?_)
        · have f2 := emod_bd (dv ds (60 + 12 * (i : Int) + 10).toNat % 1000000) (n := (i : Int)) hg
          refine XK.gw ?_
          refine XK.if_ rfl (fun h3 => ?_) (fun h3 => ?_)
          · refine XK.dr ?_
            refine XB.nx 9 ?_
            refine ksl fun g7 => ?_
            refine XB.bk ?_
            refine XB.tl [10, 11, 12] ?_
            refine XK.gw ?_
            refine kap 1 fun A' k' => ?_
            dsimp only [List.set]
            refine XK.gw ?_
            exact XK.mt (([_], _), (_, _), _) (hg := ⟨rfl, Nat.le_refl _, rfl, fun f hf => by rcases List.mem_singleton.1 hf with rfl; exact f2⟩)
          · refine XK.gw ?_
            exact XK.mt (([], _), (_, _), _) (hg := ⟨rfl, Nat.zero_le _, rfl, by simp⟩)
        · refine XK.gw ?_
          exact XK.mt (([], _), (_, _), _) (hg := ⟨rfl, Nat.zero_le _, rfl, by simp⟩)
      obtain ⟨⟨ns, xs⟩, ⟨U, cU⟩, nn⟩ := x
      dsimp only at hx ⊢
      obtain ⟨hnl, hn1, rfl, hnf⟩ := hx
      refine XK.ct (α := (List Int × List Value) × (Option Addr × Nat) × Nat) (fun _ => [(16, .pointer (some ⟨g5, 0, none⟩)), (15, .int .i64 (60 + 12 * (i : Int))), (14, .int .i64 i), (6, .pointer (some ⟨g4, 0, none⟩)), (4, .slice (some ⟨g2, 0, none⟩) 120 120), (2, .pointer (some ⟨g1, 0, none⟩))]) (fun x => [HP.own 3 1 (.slice x.2.1.1 x.2.2 x.2.1.2) x.2.2 x.1.2, HP.own 68 2 (.slice W rg.length cW) rg.length (rg.flatMap Rg.cells), HP.blk g5 71 [.int .i64 (dv ds (60 + 12 * (i : Int)).toNat % 1000000 % (nc : Int)), .int .i64 (dv ds (60 + 12 * (i : Int) + 1).toNat % 1000000 % (nd : Int)), .int .i64 (dv ds (60 + 12 * (i : Int) + 2).toNat % 1000000 % (nr : Int)), .int .u32 (dv ds (60 + 12 * (i : Int) + 3).toNat % 1000000 % 3), .slice W rg.length cW, .slice x.2.1.1 x.2.2 x.2.1.2], dvH vs r4, HP.own 71 6 (.slice V i cV) i r4.flatten, HP.own 66 1 (.slice L nr cL) nr rrs.flatten, HP.own 49 3 (.slice D nd cD) nd drs.flatten, ckH cs rows, HP.own 64 6 (.slice B nc cB) nc rows.flatten, HP.blk g4 34 [.slice B nc cB, .slice D nd cD, .slice L nr cL, .slice V i cV], HP.blk g2 3 (intCells ds), HP.blk g1 34 [.slice none 0 0, .slice none 0 0, .slice none 0 0, .slice none 0 0]]) (fun x => x.1.1.length = x.2.2 ∧ x.2.2 ≤ 2 ∧ x.1.2 = intCells x.1.1 ∧ ∀ f ∈ x.1.1, 0 ≤ f ∧ f < i) ?_ fun x hx => ?_
      · refine XK.gw ?_
        refine xk_split (t := 323) rfl (fun hg => ?_) (fun hg => ?_)
        · have f2 := emod_bd (dv ds (60 + 12 * (i : Int) + 11).toNat % 1000000 / 3) (n := (i : Int)) (by omega)
          refine XK.gw ?_
          refine XK.if_ rfl (fun h3 => ?_) (fun h3 => ?_)
          · refine XK.dr ?_
            refine XB.nx 10 ?_
            refine ksl fun g7 => ?_
            refine XB.bk ?_
            refine XB.tl [11, 12, 13] ?_
            refine XK.gw ?_
            refine kap 1 fun A' k' => ?_
            dsimp only [List.set]
            refine XK.gw ?_
            exact XK.mt ((ns ++ [dv ds (60 + 12 * (i : Int) + 11).toNat % 1000000 / 3 % (i : Int)], _), (_, _), _) (hg := ⟨by simp [hnl], by show nn + 1 ≤ 2; omega, by simp [intCells], fun f hf => by
              rcases List.mem_append.1 hf with hf | hf
              · exact hnf f hf
              · rcases List.mem_singleton.1 hf with rfl
                exact f2⟩)
          · refine XK.gw ?_
            exact XK.mt ((_, _), (_, _), _) (hg := ⟨hnl, Nat.le_succ_of_le hn1, rfl, hnf⟩)
        · refine XK.gw ?_
          exact XK.mt ((_, _), (_, _), _) (hg := ⟨hnl, Nat.le_succ_of_le hn1, rfl, hnf⟩)
      obtain ⟨⟨ns, xs⟩, ⟨U, cU⟩, nn⟩ := x
      dsimp only at hx ⊢
      obtain ⟨rfl, hn2, rfl, hnf⟩ := hx
      refine XK.gw ?_
      refine ksl fun g7 => ?_
      refine XK.gw ?_
      refine kap 5 fun A' k' => ?_
      dsimp only [List.set]
      refine XK.gw ?_
      refine XK.weak [2, 1, 4, 5, 6, 7, 8, 9, 10, 11, 12] rfl (by decide) (fun _ h => h) ?_
      refine XK.dvAdd (d := ⟨dv ds (60 + 12 * (i : Int)).toNat % 1000000 % (nc : Int), dv ds (60 + 12 * (i : Int) + 1).toNat % 1000000 % (nd : Int), dv ds (60 + 12 * (i : Int) + 2).toNat % 1000000 % (nr : Int), dv ds (60 + 12 * (i : Int) + 3).toNat % 1000000 % 3, rg, ns⟩) ?_
      exact XK.ag ((_, _), (_, _), _) (hg := ⟨by simp [hvl], hvf.snoc ⟨q0.1, q0.2, q1.1, q1.2, q2.1, q2.2, by dsimp only; omega, by dsimp only; omega, hg4, hgf, hn2, by rw [hvl]; exact hnf⟩, by simp⟩)
    · refine XK.gw ?_
      exact XK.mt ((_, _), (_, _), _) (hg := ⟨hvl, by show 1 ≤ i; omega, hi, hvf⟩)
  obtain ⟨⟨vs, r4⟩, ⟨V, cV⟩, nv⟩ := x
  dsimp only at hx ⊢
  obtain ⟨rfl, hv1, hv4, hvf⟩ := hx
  subst hcl; subst hdl; subst hrl
  refine XK.gw ?_
  refine kstW 8 rfl ?_
  dsimp only [List.set]
  refine XK.gw ?_
  refine XK.weak [8, 5, 4, 3, 2, 1, 0] rfl (by decide) (fun _ h => h) ?_
  refine XK.still [] [] [0, 1, 2, 3, 4, 5, 6] (by simp) rfl (by decide) (by decide) fun q _ _ hfr => ?_
  exact XK.retC rfl (by kernel_rfl) rfl rfl (RdN.whole 0 rfl) fun w1 t => ⟨⟨_, _, ⟨w1, q.Z⟩, rfl, rfl, ⟨_, _, rfl, ⟨⟨cs, dm, rs, vs⟩, (B, cB), (D, cD), (L, cL), (V, cV), rows, drs, rrs, r4, rfl, ⟨hcf, hdf, hrf, hvf, ⟨hc1, hc9⟩, ⟨hd1, hd4⟩, ⟨hr1, hr3⟩, ⟨hv1, hv4⟩⟩, hdr, hrr, rfl⟩⟩, t.newR (by simp) (by simp) (hfr (by simp) (by simp))⟩, t.below (by simp)⟩
end
section
set_option maxHeartbeats 4000000
set_option maxRecDepth 20000
theorem bad_small {s : Soc} (hm : s.made) : (badSoc s).small := by
 have h := made_small hm
 have hl : (badSoc s).domains.length = s.domains.length := by
  unfold badSoc
  cases s.domains <;> rfl
 unfold Soc.small at h ⊢
 rw [hl]
 exact h
theorem startZ_in {s : Soc} {j : Nat} (hj : T3 j) {k dv rg v : Int} (hk : isCall k) : startZ (rpN s) j k dv rg v = (0, (rpN s).setT j { (rpN s).tk j with st := 1, kind := k, dev := dv, reg := rg, val := v }) := by
 unfold startZ
 rcases hj with rfl | rfl | rfl <;> simp [inB, hk, rpN, rp0, RpS.tk, tk0]
theorem startZ_bad {s : Soc} {j : Nat} (hj : T3 j) {k dv rg v : Int} (hk : ¬ isCall k) : startZ (rpN s) j k dv rg v = (1, rpN s) := by
 unfold startZ
 rcases hj with rfl | rfl | rfl <;> simp [inB, hk, rpN, rp0, RpS.tk, tk0]
theorem callK_ok (a : ActD) : isCall (callK a) ∨ callK a = 120 := by
 obtain ⟨h0, h1⟩ := pickF_bd a.kind 13 (by decide)
 unfold callK kindA
 obtain ⟨n, hn⟩ : ∃ n : Nat, pickF a.kind 13 = (n : Int) := ⟨(pickF a.kind 13).toNat, by omega⟩
 rw [hn] at h1 ⊢
 have hn : n < 13 := by omega
 rw [Int.toNat_natCast]
 match n, hn with
 | 0, _ | 1, _ | 2, _ | 3, _ | 4, _ | 5, _ | 6, _ | 7, _ | 8, _ | 9, _ | 10, _ | 11, _ => exact .inl (by simp [isCall])
 | 12, _ => exact .inr rfl
 | n + 13, h => omega
theorem rpStart_of (g h f : Nat) (s : Soc) {z z' : RpS} {w : World} {F : Nat → Prop} {t k dv rg v e : Int} (hs : startZ z t k dv rg v = (e, z')) (hp : (RpmX g h f s z).sat F w) (hF : ∀ b, F b → b < w.heap.size) :
  Calls Tryz.prog 10 #[.pointer (some ⟨g, 0, none⟩), .int .i64 t, .agg #[.int .u8 k, .int .i64 dv, .int .i64 rg, .int .u32 v]] w (fun y w' => y = .returned (.int .i64 e) ∧ ∃ F', (RpmX g h f s z').sat F' w' ∧ Turns w w' F F') := by
 have := rpStart_m g h f s z w F t k dv rg v hp hF
 rw [hs] at this
 exact this
theorem rpDone_of (g h f : Nat) (s : Soc) {z z' : RpS} {w : World} {F : Nat → Prop} {t e v : Int} {b : Bool} (hs : doneZ z t = ((e, v, b), z')) (hp : (RpmX g h f s z).sat F w) (hF : ∀ b, F b → b < w.heap.size) :
  Calls Tryz.prog 11 #[.pointer (some ⟨g, 0, none⟩), .int .i64 t] w (fun y w' => y = .returned (.tuple #[.agg #[.int .i64 e, .int .u32 v], .bool b]) ∧ ∃ F', (RpmX g h f s z').sat F' w' ∧ Turns w w' F F') := by
 have := rpDone_m g h f s z w F t hp hF
 rw [hs] at this
 exact this
set_option maxRecDepth 100000 in
theorem rpmErrs_any (A : Option Addr) (n c : Nat) (zs : List Int) (a : ActD) (w : World) (h0 : SlS (all w) 1 A n (intCells zs)) (hz : I64s zs) (hn : n = zs.length) (hn2 : n ≤ 9223372036854775807) (hao : a.ok) :
    Calls Tryz.prog 3 #[.slice A n c, .agg a.cells.toArray] w (Rt (.bool true) w) := by
  obtain ⟨a0, a1, a2, a3, a4, a5, r0, r1, r2, r3, r4, r5⟩ := a
  refine XK.enter (vs := [.slice A n c, .agg #[.int .i64 a0, .int .i64 a1, .int .i64 a2, .int .i64 a3, .int .i64 a4, .int .u32 a5, .int .i64 r0, .int .i64 r1, .int .i64 r2, .int .i64 r3, .int .i64 r4, .int .i64 r5]]) Tryz.func3 rfl Tryz.ntmps3 (by simp) ?_
  refine XK.gw ?_
  refine kbx fun g0 => ?_
  refine XK.gw ?_
  refine kcall (fun w1 t => shown18_any w1) ?_
  refine XK.gw ?_
  refine xk_callN (f := 5) (fi := []) (ca := []) (by kernel_rfl) rfl rfl (by decide) (fun v hs q => ∃ p hs', hs = p :: hs' ∧ ChipO v hs' q) (fun w1 t => chip18_own A n c zs w1 (h0.le (t.le (by simp))) hz hn hn2) ?_
  rintro _ _ q1 ⟨pB, _, rfl, s, ⟨A1, k1⟩, ⟨A2, k2⟩, ⟨A3, k3⟩, ⟨A4, k4⟩, y1, y2, y3, y4, rfl, hm, hr2, hr3, rfl⟩ _
  dsimp only [List.cons_append, List.nil_append]
  have hnd := hm.nd
  have hnv := hm.nv
  obtain ⟨d, ds, hd⟩ : ∃ d ds, s.domains = d :: ds := by
    cases h : s.domains with
    | nil => rw [h] at hnd; simp at hnd
    | cons d ds => exact ⟨d, ds, rfl⟩
  obtain ⟨rs, rfl, hrs⟩ : ∃ rs, y2 = [.int .i64 d.above, .int .i64 d.delay, .bool d.ret] :: rs ∧ Rows DomR 3 ds rs := by
    rw [hd] at hr2
    cases y2 with
    | nil => exact hr2.elim
    | cons r rs => exact ⟨rs, by rw [show r = _ from hr2.2.1], hr2.2.2⟩
  have hbd : (badSoc s).domains = badDom d :: ds := by simp [badSoc, hd]
  have hr2b : Rows DomR 3 (badSoc s).domains ([.int .i64 d.above, .int .i64 (-1), .bool d.ret] :: rs) := by
    rw [hbd]
    exact ⟨rfl, rfl, hrs⟩
  refine kal fun g1 => ?_
  refine XK.gw ?_
  refine xk_callN (f := 6) (fi := []) (ca := []) (by kernel_rfl) rfl rfl (by decide) (Rig18 s) (fun w1 t => rig18_ok s A1 A2 A3 A4 _ k1 _ k2 _ k3 _ k4 w1 (t.chipW 2 3 4 5 6 7 rfl rfl rfl rfl rfl rfl rfl rfl rfl rfl hr2 hr3 (made_small hm)) hm) ?_
  rintro _ _ q2 ⟨gR, f, r, hL, pX, rfl, rfl, hLo⟩ _
  dsimp only [List.cons_append, List.nil_append]
  refine XK.gw ?_
  refine XK.dz ?_
  refine XB.nx 5 ?_
  refine kcall (fun w1 t => rpmNone_any s A1 A2 A3 A4 _ k1 _ k2 _ k3 _ k4 w1 (t.chipW 6 7 8 9 10 11 rfl rfl rfl rfl rfl rfl rfl rfl rfl rfl hr2 hr3 (made_small hm)) hm none (some ⟨f, 0, none⟩) (.inl rfl)) ?_
  refine XB.bk ?_
  refine XB.lo 6 ?_
  refine XB.lo 8 ?_
  refine XB.fin ?_
  refine XK.gw ?_
  refine XK.dz ?_
  refine XB.nx 5 ?_
  refine kcall (fun w1 t => rpmNone_any s A1 A2 A3 A4 _ k1 _ k2 _ k3 _ k4 w1 (t.chipW 6 7 8 9 10 11 rfl rfl rfl rfl rfl rfl rfl rfl rfl rfl hr2 hr3 (made_small hm)) hm (some ⟨hL.h, 0, none⟩) none (.inr rfl)) ?_
  refine XB.bk ?_
  refine XB.lo 6 ?_
  refine XB.lo 8 ?_
  refine XB.fin ?_
  refine XK.ownAt 8 rfl (by omega) fun ⟨gD, hgD⟩ => ?_
  subst hgD
  refine XK.openOwn 8 rfl fun cs hcl hct hnc hcm => ?_
  dsimp only [List.set]
  refine XK.gw ?_
  refine XK.closeOwn (n := s.domains.length) (c := k2) (sz := 3) (xs := ([.int .i64 d.above, .int .i64 (-1), .bool d.ret] :: rs).flatten) 8 rfl (by simpa using hcl) (by
    rw [List.take_set, hct]
    rfl) hnc hcm ?_
  dsimp only [List.set]
  refine XK.gw ?_
  refine XK.dz ?_
  refine XB.nx 9 ?_
  refine kcall (fun w1 t => rpmBad_any (badSoc s) A1 (some ⟨gD, 0, none⟩) A3 A4 _ k1 _ k2 _ k3 _ k4 w1 (t.chipW (s := badSoc s) 6 7 8 9 10 11 rfl rfl rfl rfl rfl rfl rfl (by rw [hbd, hd]; rfl) rfl rfl hr2b hr3 (bad_small hm)) (some ⟨hL.h, 0, none⟩) (some ⟨f, 0, none⟩) (bad_check hm)) ?_
  refine XB.bk ?_
  refine XB.lo 10 ?_
  refine XB.lo 12 ?_
  refine XB.fin ?_
  refine XK.weak [1, 0, 12, 4] rfl (by decide) (R' := [all w]) (by simp) ?_
  refine XK.gw ?_
  refine kcall (fun w1 t => call18_at ⟨a0, a1, a2, a3, a4, a5, r0, r1, r2, r3, r4, r5⟩ s.devs.length w1 hao ⟨by omega, by omega⟩) ?_
  have hk := callK_ok ⟨a0, a1, a2, a3, a4, a5, r0, r1, r2, r3, r4, r5⟩
  dsimp only
  generalize callK ⟨a0, a1, a2, a3, a4, a5, r0, r1, r2, r3, r4, r5⟩ = k at hk ⊢
  generalize callD ⟨a0, a1, a2, a3, a4, a5, r0, r1, r2, r3, r4, r5⟩ s.devs.length = dv
  generalize callR ⟨a0, a1, a2, a3, a4, a5, r0, r1, r2, r3, r4, r5⟩ = rg
  refine kal fun g2 => ?_
  refine XK.gw ?_
  refine kcall (fun w1 t => pick18_at a1 3 w1 hao.task (by decide)) ?_
  obtain ⟨ht0, ht3⟩ := pickF_bd a1 3 (by decide)
  generalize pickF a1 3 = tt at ht0 ht3 ⊢
  obtain ⟨j, rfl, hj⟩ := in3 (t := tt) (decide_eq_true ⟨ht0, ht3⟩)
  refine XK.gw ?_
  rcases hk with hk | rfl
  · obtain ⟨z1, hs1, hs2, hs3, hs4, hdn, hby, hho⟩ : ∃ z1, startZ (rpN s) j k dv rg a5 = (0, z1) ∧ startZ z1 (-1) k dv rg a5 = (4, z1) ∧ startZ z1 3 k dv rg a5 = (4, z1) ∧ startZ z1 j k dv rg a5 = (7, z1) ∧ doneZ z1 j = ((0, 0, false), z1) ∧ busyZ z1 j = true ∧ z1.hol = -1 := by
      refine ⟨_, startZ_in hj hk, rfl, rfl, ?_, ?_, ?_, ?_⟩
      all_goals rcases hj with rfl | rfl | rfl <;> rfl
    rcases hk with rfl | rfl | rfl | rfl | rfl | rfl
    all_goals
      refine XK.dr ?_
      refine XB.nx 6 ?_
      refine kcallW 1 (RpmX r hL.h f s z1) (fun w1 F1 t h1 h2 h3 => rpStart_of r hL.h f s hs1 h1 h2) ?_
      dsimp only [List.set]
      refine XB.bt ?_
      refine XB.tl [7] ?_
      refine XK.gw ?_
      refine XK.dy ?_
      refine XB.nx 20 ?_
      refine XK.gw ?_
      refine kcallW 1 (RpmX r hL.h f s z1) (fun w1 F1 t h1 h2 h3 => rpStart_of r hL.h f s hs2 h1 h2) ?_
      dsimp only [List.set]
      refine XB.bk ?_
      refine XB.lo 21 ?_
      refine XB.nx 29 ?_
      refine XK.gw ?_
      refine kcallW 1 (RpmX r hL.h f s z1) (fun w1 F1 t h1 h2 h3 => rpStart_of r hL.h f s hs3 h1 h2) ?_
      dsimp only [List.set]
      refine XB.bk ?_
      refine XB.lo 30 ?_
      refine XB.fin ?_
      refine XK.gw ?_
      refine kcallW 1 (RpmX r hL.h f s z1) (fun w1 F1 t h1 h2 h3 => rpDone_of r hL.h f s hdn h1 h2) ?_
      dsimp only [List.set]
      refine XK.gw ?_
      refine kal fun g3 => ?_
      refine XK.gw ?_
      refine XK.dr ?_
      refine XB.nx 6 ?_
      refine kcallW 2 (RpmX r hL.h f s z1) (fun w1 F1 t h1 h2 h3 => rpStart_of r hL.h f s hs4 h1 h2) ?_
      dsimp only [List.set]
      refine XB.bt ?_
      refine XB.tl [7] ?_
      refine XK.openEx 2 rfl fun L => ?_
      dsimp only [List.set]
      refine XK.gw ?_
      refine kcall (fun w1 t => rpBusy_any r hL.h f L s z1 w1 (j : Int) (t.rpmR 2 rfl)) ?_
      rw [hby]
      refine XK.gw ?_
      refine kcall (fun w1 t => rpHolder_any r hL.h f L s z1 w1 (t.rpmR 2 rfl)) ?_
      rw [hho]
      refine XK.gw ?_
      exact XK.retE (by simp) rfl
  · obtain ⟨z1, hs1, hs2, hs3, hs4, hdn, hby, hho⟩ : ∃ z1, startZ (rpN s) j 120 dv rg a5 = (1, z1) ∧ startZ z1 (-1) 120 dv rg a5 = (4, z1) ∧ startZ z1 3 120 dv rg a5 = (4, z1) ∧ startZ z1 j 120 dv rg a5 = (1, z1) ∧ doneZ z1 j = ((0, 0, false), z1) ∧ busyZ z1 j = false ∧ z1.hol = -1 := by
      refine ⟨_, startZ_bad hj (by simp [isCall]), rfl, rfl, startZ_bad hj (by simp [isCall]), ?_, ?_, rfl⟩
      all_goals rcases hj with rfl | rfl | rfl <;> rfl
    all_goals
      refine XK.dr ?_
      refine XB.nx 6 ?_
      refine kcallW 1 (RpmX r hL.h f s z1) (fun w1 F1 t h1 h2 h3 => rpStart_of r hL.h f s hs1 h1 h2) ?_
      dsimp only [List.set]
      refine XB.bt ?_
      refine XB.tl [7] ?_
      refine XK.gw ?_
      refine XK.dy ?_
      refine XB.nx 20 ?_
      refine XK.gw ?_
      refine kcallW 1 (RpmX r hL.h f s z1) (fun w1 F1 t h1 h2 h3 => rpStart_of r hL.h f s hs2 h1 h2) ?_
      dsimp only [List.set]
      refine XB.bk ?_
      refine XB.lo 21 ?_
      refine XB.nx 29 ?_
      refine XK.gw ?_
      refine kcallW 1 (RpmX r hL.h f s z1) (fun w1 F1 t h1 h2 h3 => rpStart_of r hL.h f s hs3 h1 h2) ?_
      dsimp only [List.set]
      refine XB.bk ?_
      refine XB.lo 30 ?_
      refine XB.fin ?_
      refine XK.gw ?_
      refine kcallW 1 (RpmX r hL.h f s z1) (fun w1 F1 t h1 h2 h3 => rpDone_of r hL.h f s hdn h1 h2) ?_
      dsimp only [List.set]
      refine XK.gw ?_
      refine kal fun g3 => ?_
      refine XK.gw ?_
      refine XK.dr ?_
      refine XB.nx 6 ?_
      refine kcallW 2 (RpmX r hL.h f s z1) (fun w1 F1 t h1 h2 h3 => rpStart_of r hL.h f s hs4 h1 h2) ?_
      dsimp only [List.set]
      refine XB.bt ?_
      refine XB.tl [7] ?_
      refine XK.openEx 2 rfl fun L => ?_
      dsimp only [List.set]
      refine XK.gw ?_
      refine kcall (fun w1 t => rpBusy_any r hL.h f L s z1 w1 (j : Int) (t.rpmR 2 rfl)) ?_
      rw [hby]
      refine XK.gw ?_
      refine kcall (fun w1 t => rpHolder_any r hL.h f L s z1 w1 (t.rpmR 2 rfl)) ?_
      rw [hho]
      refine XK.gw ?_
      exact XK.retE (by simp) rfl
end
section
section
variable {H : Type} {enc : TypeId × Value → H} {w : World} {fuel : Nat} {cs : List Value} {x : DataW H × List MemPlace}
theorem pk18_ {α : Type} {l : List α} {n i : Nat} (h : l.length = n) (hi : i < n) : ∃ y, l[i]? = some y := ⟨l[i]'(by omega), List.getElem?_eq_getElem _⟩
theorem b18_ {a : Int} (h : (Lit.int .u32 a).wf = true) : 0 ≤ a ∧ a < 4294967296 := by
 simp [Lit.wf, IntKind.min, IntKind.max, IntKind.signed, IntKind.bits] at h
 omega
theorem act18_cells : Tryz.prog.cellsOf 27 = 12 := by kernel_rfl
theorem act18_cA : Tryz.prog.cellsOf 25 = 6 := by kernel_rfl
theorem act18_cI : Tryz.prog.cellsOf 3 = 1 := by kernel_rfl
theorem act18_cU : Tryz.prog.cellsOf 23 = 1 := by kernel_rfl
theorem twelve18 {l : List Value} (h : l.length = 12) : ∃ a b c d e f g i j k m n, l = [a, b, c, d, e, f, g, i, j, k, m, n] := by
 match l, h with
 | [a, b, c, d, e, f, g, i, j, k, m, n], _ => exact ⟨a, b, c, d, e, f, g, i, j, k, m, n, rfl⟩
theorem six18 {l : List Value} (h : l.length = 6) : ∃ a b c d e f, l = [a, b, c, d, e, f] := by
 match l, h with
 | [a, b, c, d, e, f], _ => exact ⟨a, b, c, d, e, f, rfl⟩
theorem ask18_of_trod (h : DataW.trod enc Tryz.prog w 0 (fun _ => true) true fuel 25 cs = some x) :
  ∃ a b c d e f : Int, cs = [.int .i64 a, .int .i64 b, .int .i64 c, .int .i64 d, .int .i64 e, .int .i64 f] ∧ (-9223372036854775808 ≤ b ∧ b ≤ 9223372036854775807) ∧ (-9223372036854775808 ≤ c ∧ c ≤ 9223372036854775807) ∧ (-9223372036854775808 ≤ d ∧ d ≤ 9223372036854775807) ∧ (-9223372036854775808 ≤ e ∧ e ≤ 9223372036854775807) ∧ (-9223372036854775808 ≤ f ∧ f ≤ 9223372036854775807) := by
 obtain ⟨xs, n, rfl, _, hl, hxl, hf⟩ := DataW.trod_struct Tryz.underlying25 h
 rw [act18_cA] at hl
 obtain ⟨a, b, c, d, e, f, rfl⟩ := six18 hl
 have h0 := hf 0 _ rfl
 have h1 := hf 1 _ rfl
 have h2 := hf 2 _ rfl
 have h3 := hf 3 _ rfl
 have h4 := hf 4 _ rfl
 have h5 := hf 5 _ rfl
 simp only [List.getElem_toArray, List.getElem_cons_zero, List.getElem_cons_succ, List.drop_succ_cons, List.drop_zero, act18_cI, act18_cU, List.take_succ_cons, List.take_zero] at h0 h1 h2 h3 h4 h5
 obtain ⟨y0, e0⟩ := pk18_ hxl (i := 0) (by simp)
 obtain ⟨y1, e1⟩ := pk18_ hxl (i := 1) (by simp)
 obtain ⟨y2, e2⟩ := pk18_ hxl (i := 2) (by simp)
 obtain ⟨y3, e3⟩ := pk18_ hxl (i := 3) (by simp)
 obtain ⟨y4, e4⟩ := pk18_ hxl (i := 4) (by simp)
 obtain ⟨y5, e5⟩ := pk18_ hxl (i := 5) (by simp)
 rw [e0] at h0
 rw [e1] at h1
 rw [e2] at h2
 rw [e3] at h3
 rw [e4] at h4
 rw [e5] at h5
 obtain ⟨z0, g0, _, _⟩ := DataW.trod_int Tryz.underlying3 h0
 obtain ⟨z1, g1, _, w1⟩ := DataW.trod_int Tryz.underlying3 h1
 obtain ⟨z2, g2, _, w2⟩ := DataW.trod_int Tryz.underlying3 h2
 obtain ⟨z3, g3, _, w3⟩ := DataW.trod_int Tryz.underlying3 h3
 obtain ⟨z4, g4, _, w4⟩ := DataW.trod_int Tryz.underlying3 h4
 obtain ⟨z5, g5, _, w5⟩ := DataW.trod_int Tryz.underlying3 h5
 simp at g0 g1 g2 g3 g4 g5
 subst g0; subst g1; subst g2; subst g3; subst g4; subst g5
 exact ⟨_, _, _, _, _, _, rfl, bounds64 w1, bounds64 w2, bounds64 w3, bounds64 w4, bounds64 w5⟩
theorem act18_of_trod (h : DataW.trod enc Tryz.prog w 0 (fun _ => true) true fuel 27 cs = some x) : ∃ v : ActD, cs = v.cells ∧ v.ok := by
 obtain ⟨xs, n, rfl, _, hl, hxl, hf⟩ := DataW.trod_struct Tryz.underlying27 h
 rw [act18_cells] at hl
 obtain ⟨a, b, c, d, e, f, g, i, j, k, m, n', rfl⟩ := twelve18 hl
 have h0 := hf 0 _ rfl
 have h1 := hf 1 _ rfl
 have h2 := hf 2 _ rfl
 have h3 := hf 3 _ rfl
 have h4 := hf 4 _ rfl
 have h5 := hf 5 _ rfl
 have h6 := hf 6 _ rfl
 simp only [List.getElem_toArray, List.getElem_cons_zero, List.getElem_cons_succ, List.drop_succ_cons, List.drop_zero, act18_cI, act18_cU, act18_cA, List.take_succ_cons, List.take_zero] at h0 h1 h2 h3 h4 h5 h6
 obtain ⟨y0, e0⟩ := pk18_ hxl (i := 0) (by simp)
 obtain ⟨y1, e1⟩ := pk18_ hxl (i := 1) (by simp)
 obtain ⟨y2, e2⟩ := pk18_ hxl (i := 2) (by simp)
 obtain ⟨y3, e3⟩ := pk18_ hxl (i := 3) (by simp)
 obtain ⟨y4, e4⟩ := pk18_ hxl (i := 4) (by simp)
 obtain ⟨y5, e5⟩ := pk18_ hxl (i := 5) (by simp)
 obtain ⟨y6, e6⟩ := pk18_ hxl (i := 6) (by simp)
 rw [e0] at h0
 rw [e1] at h1
 rw [e2] at h2
 rw [e3] at h3
 rw [e4] at h4
 rw [e5] at h5
 rw [e6] at h6
 obtain ⟨z0, g0, _, w0⟩ := DataW.trod_int Tryz.underlying3 h0
 obtain ⟨z1, g1, _, w1⟩ := DataW.trod_int Tryz.underlying3 h1
 obtain ⟨z2, g2, _, w2⟩ := DataW.trod_int Tryz.underlying3 h2
 obtain ⟨z3, g3, _, w3⟩ := DataW.trod_int Tryz.underlying3 h3
 obtain ⟨z4, g4, _, w4⟩ := DataW.trod_int Tryz.underlying3 h4
 obtain ⟨z5, g5, _, w5⟩ := DataW.trod_int Tryz.underlying23 h5
 obtain ⟨q0, q1, q2, q3, q4, q5, g6, u1, u2, u3, u4, u5⟩ := ask18_of_trod h6
 simp at g0 g1 g2 g3 g4 g5 g6
 obtain ⟨rfl, rfl, rfl, rfl, rfl, rfl⟩ := g6
 subst g0; subst g1; subst g2; subst g3; subst g4; subst g5
 exact ⟨⟨z0, z1, z2, z3, z4, z5, q0, q1, q2, q3, q4, q5⟩, rfl, bounds64 w0, bounds64 w1, bounds64 w2, bounds64 w3, bounds64 w4, b18_ w5, u1, u2, u3, u4, u5⟩
open Go.ChangeShapes Go.WideShapes Go.ChangeAt in
set_option maxRecDepth 100000 in
theorem open_act18 {v : Value} {d : DataW H} {ps : List MemPlace} {base : Nat} (hval : Value.okWide Tryz.prog w .any base 27 v) (h : DataW.Trod enc Tryz.prog w 0 (fun _ => true) true 27 v d ps) : ∃ a : ActD, v = .agg a.cells.toArray ∧ a.ok := by
  obtain ⟨cs, rfl, _⟩ := okWide_struct Tryz.underlying27 hval
  obtain ⟨fuel, hf⟩ := h
  obtain ⟨a, ha, hok⟩ := act18_of_trod hf
  refine ⟨a, ?_, hok⟩
  rw [← ha]
  simp [Value.cells]
end
end
end Go.Proofs.YtcoifdhdhglioaaGreat
