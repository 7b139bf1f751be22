/- audit.Order: the first that ended otherwise than it had to. -/
import Derived.Test.YtbgibbbggajgaaaAud1
import Derived.Test.YtbgibbbggajgaaaEff
namespace Go.Proofs.Ytbgibbbggajgaaa
set_option linter.all false
open Go.RowKit
attribute [local irreducible] KC KI KQ
instance : Inhabited Ev := ⟨⟨0, 0, 0, 0, 0, 0, 0, 0, 0, 0, false, 0, false, none, 0, []⟩⟩
/-- those that begin or end a call of a task -/
def selE (evs : List Ev) : List Ev := (selIds evs).map fun i => evs[i]?.getD default
theorem selE_get {evs : List Ev} {k i : Nat} (h : (selIds evs)[k]? = some i) : ∃ x, evs[i]? = some x ∧ (selE evs)[k]? = some x ∧ sel x = true := by
  have hm := List.mem_of_getElem? h
  unfold selIds at hm
  obtain ⟨h1, h2⟩ := List.mem_filter.1 hm
  have hlt := List.mem_range.1 h1
  have hx : evs[i]? = some evs[i] := List.getElem?_eq_getElem hlt
  refine ⟨evs[i], hx, ?_, ?_⟩
  · rw [selE, List.getElem?_map, h, Option.map_some, hx]; rfl
  · rw [selI, hx] at h2; exact h2
structure Ost where
  x : Crs
  last : List Int
def ost0 : Ost := ⟨⟨⟨[], false⟩, List.replicate 18 0⟩, [0, 0, 0]⟩
def lastAt (σ : Ost) (e : Ev) : Int := σ.last[e.task.toNat]?.getD 0
def oStep (devs : List Dev) (σ : Ost) (e : Ev) : Ost := if e.kind = 98 then ⟨(effF devs σ.x e.task.toNat e.ck e.dev e.reg).2, σ.last.set e.task.toNat (effF devs σ.x e.task.toNat e.ck e.dev e.reg).1⟩ else σ
def oBad (σ : Ost) (e : Ev) : Prop := e.kind ≠ 98 ∧ (e.err ≠ lastAt σ e ∨ (e.rv ≠ 0 ∧ (lastAt σ e ≠ 0 ∨ ¬ (e.ck = 114 ∨ e.ck = 119))))
instance (σ : Ost) (e : Ev) : Decidable (oBad σ e) := by unfold oBad; infer_instance
/-- behind k of them -/
def oSt (devs : List Dev) (L : List Ev) (k : Nat) : Ost := (L.take k).foldl (oStep devs) ost0
def badAt (devs : List Dev) (L : List Ev) (k : Nat) : Bool := match L[k]? with | some e => decide (oBad (oSt devs L k) e) | none => false
def firstB (p : Nat → Bool) : Nat → Option Nat
  | 0 => none
  | n + 1 => match firstB p n with | some k => some k | none => if p n then some n else none
theorem firstB_none {p : Nat → Bool} : ∀ {n : Nat}, (∀ j, j < n → p j = false) → firstB p n = none
  | 0, _ => rfl
  | n + 1, h => by
    have ih := firstB_none (n := n) fun j hj => h j (by omega)
    simp [firstB, ih, h n (by omega)]
theorem firstB_some {p : Nat → Bool} {k : Nat} (hk : ∀ j, j < k → p j = false) (hp : p k = true) : ∀ {n : Nat}, k < n → firstB p n = some k
  | 0, h => by omega
  | n + 1, h => by
    rcases Nat.lt_or_ge k n with h1 | h1
    · have ih := firstB_some hk hp (n := n) h1
      simp [firstB, ih]
    · obtain rfl : k = n := by omega
      simp [firstB, firstB_none hk, hp]
def ordK (devs : List Dev) (L : List Ev) : Option Nat := firstB (badAt devs L) L.length
def ordF (devs : List Dev) (evs : List Ev) : Int := match ordK devs (selE evs) with | some k => ((selIds evs)[k]?.getD 0 : Nat) | none => -1
theorem selE_len (evs : List Ev) : (selE evs).length = (selIds evs).length := by simp [selE]
theorem ordF_none {devs : List Dev} {evs : List Ev} (h : ∀ j, j < (selIds evs).length → badAt devs (selE evs) j = false) : ordF devs evs = -1 := by
  rw [ordF, ordK, firstB_none (by rw [selE_len]; exact h)]
theorem ordF_some {devs : List Dev} {evs : List Ev} {k i : Nat} (hi : (selIds evs)[k]? = some i) (h : ∀ j, j < k → badAt devs (selE evs) j = false) (hb : badAt devs (selE evs) k = true) : ordF devs evs = (i : Int) := by
  rw [ordF, ordK, firstB_some h hb (by rw [selE_len]; exact (List.getElem?_eq_some_iff.1 hi).1)]
  simp [hi]
theorem oSt_next {devs : List Dev} {L : List Ev} {k : Nat} {x : Ev} (h : L[k]? = some x) : oSt devs L (k + 1) = oStep devs (oSt devs L k) x := by
  rw [oSt, oSt, List.take_add_one, h, Option.toList_some, List.foldl_append]; rfl
theorem foldl_len (devs : List Dev) : ∀ (l : List Ev) (σ : Ost), σ.last.length = 3 ∧ σ.x.h.length = 18 → (l.foldl (oStep devs) σ).last.length = 3 ∧ (l.foldl (oStep devs) σ).x.h.length = 18
  | [], σ, h => h
  | e :: l, σ, h => by
    refine foldl_len devs l _ ?_
    unfold oStep
    split
    · exact ⟨by simpa using h.1, by rw [effF_len]; exact h.2⟩
    · exact h
theorem oSt_len (devs : List Dev) (L : List Ev) (k : Nat) : (oSt devs L k).last.length = 3 ∧ (oSt devs L k).x.h.length = 18 := foldl_len devs _ _ ⟨rfl, rfl⟩
theorem sel_task {e : Ev} (h : sel e = true) : 0 ≤ e.task ∧ e.task < 3 := by
  unfold sel at h
  simp only [Bool.and_eq_true, decide_eq_true_eq] at h
  exact h.2
theorem eff_mi (gx gc gm nd kd kn : Nat) (Ad An : Option Addr) (devs : List Dev) (x : Crs) (tk ck dev reg cv : Int) (w : World) (F : Nat → Prop) (hp : (CrsH gx gc gm (.slice Ad nd kd) (.slice An nd kn) x).sat F w) (hF : ∀ b, F b → b < w.heap.size)
    (hdev : RsR (slq ⟨w, fun b => b < w.heap.size ∧ ¬ F b⟩) (DevR (slq ⟨w, fun b => b < w.heap.size ∧ ¬ F b⟩)) 83 6 Ad nd devs) (hnd : nd = devs.length) (hnd6 : nd ≤ 6) (h0 : 0 ≤ tk) (h3 : tk < 3) (hl : x.h.length = 18) :
    Calls Try.prog 54 #[.pointer (some ⟨gx, 0, none⟩), .int .i64 tk, .agg #[.int .u8 ck, .int .i64 dev, .int .i64 reg, .int .u32 cv]] w (fun y w' => y = .returned (.int .i64 (effF devs x tk.toNat ck dev reg).1) ∧ ∃ F', (CrsH gx gc gm (.slice Ad nd kd) (.slice An nd kn) (effF devs x tk.toNat ck dev reg).2).sat F' w' ∧ Turns w w' F F') := by
  obtain ⟨t, rfl⟩ : ∃ t : Nat, tk = (t : Int) := ⟨tk.toNat, by omega⟩
  exact eff_m gx gc gm nd kd kn Ad An devs x t ck dev reg cv w F hp hF hdev hnd hnd6 (by omega) hl
theorem ev_call {w : World} {b o : Nat} {x : Ev} (h : ∀ f u, x.cells[f]? = some u → w.cell? ⟨b, o + f, none⟩ = some u) : ∀ j v, [Value.int .u8 x.ck, .int .i64 x.dev, .int .i64 x.reg, .int .u32 x.cv][j]? = some v → w.cell? ⟨b, o + 2 + j, none⟩ = some v := by
  intro j v hv
  rw [Nat.add_assoc]
  refine h (2 + j) v ?_
  rw [Ev.cells, cells2]
  match j, hv with
  | 0, hv => exact hv
  | 1, hv => exact hv
  | 2, hv => exact hv
  | 3, hv => exact hv
  | j + 4, hv => simp at hv
def iCells (l : List Int) : List Value := l.map (Value.int .i64)
theorem iCells_at {l : List Int} {i : Nat} {v : Int} (h : l[i]? = some v) : (iCells l)[i]? = some (.int .i64 v) := by rw [iCells, List.getElem?_map, h]; rfl
theorem iCells_set {l : List Int} {i : Nat} {v : Int} : (iCells l).set i (.int .i64 v) = iCells (l.set i v) := by rw [iCells, iCells, List.map_set]

def CallsOk (p0 : Piece) (A : Option Addr) (n : Nat) (evs : List Ev) (y : Value) (w w' : World) : Prop := ∃ g, y = .func (.func 64) #[] #[.pointer (some ⟨g, 0, none⟩)] ∧ ∀ q, p0.Le q → (fresh w w').Le q → ∀ b off, (0 < n → A = some ⟨b, off, none⟩) → Iter Try.prog 64 [.pointer (some ⟨g, 0, none⟩)] (idEncs b off (selIds evs)) q
theorem calls_ok (p0 : Piece) (A : Option Addr) (n c : Nat) (evs : List Ev) (w : World) (hs : EvS p0 A evs) (hn : n = evs.length) (hn2 : (n : Int) ≤ 9223372036854775806) : Calls Try.prog 41 #[.slice A n c] w (fun y w' => (∃ x, y = .returned x ∧ CallsOk p0 A n evs x w w') ∧ Below w.heap.size w w') := by
  refine XK.enter (vs := [.slice A n c]) Try.func41 rfl Try.ntmps41 (by simp) ?_
  refine XK.seq ?_

  refine XK.region ?_
  refine xk_box rfl (by decide) fun g1 => ?_
  refine xk_assign rfl (by decide) ?_
  refine XK.nil ?_
  (repeat (first | refine XK.thenN ?_ | refine XK.thenE ?_ | refine XK.thenR ?_ | refine XK.inN ?_ | refine XK.inE ?_ | refine XK.inR ?_ | refine XK.inF rfl ?_))
  refine XK.seq ?_

  refine XK.region ?_
  refine xk_func (vf := []) (vc := [.pointer (some ⟨g1, 0, none⟩)]) rfl rfl (by decide) ?_
  refine xk_assign rfl (by decide) ?_
  refine XK.nil ?_
  (repeat (first | refine XK.thenN ?_ | refine XK.thenE ?_ | refine XK.thenR ?_ | refine XK.inN ?_ | refine XK.inE ?_ | refine XK.inR ?_ | refine XK.inF rfl ?_))
  refine XK.ret ?_
  (repeat (first | refine XK.thenN ?_ | refine XK.thenE ?_ | refine XK.thenR ?_ | refine XK.inN ?_ | refine XK.inE ?_ | refine XK.inR ?_ | refine XK.inF rfl ?_))
  refine XK.still [] [0] [] (by simp) rfl (by decide) (by decide) fun q hq _ hfr => ?_
  refine XK.ret1 rfl rfl fun w1 st => ⟨⟨_, rfl, g1, rfl, fun q2 h0 hf b off hA => ?_⟩, st.below (by simp)⟩
  exact calls1_iter q2 g1 b off n c A evs hn hA ((RP.of_blk (o := 0) (v := .slice A n c) (hq 0 _ (by simp) rfl) rfl).le ((st.fresh_le (by simp) (hfr (by simp) (by simp))).trans' hf)) (hs.le h0) hn2

theorem order_S (s : Soc) (A1 A2 A3 A4 : Option Addr) (n1 k1 n2 k2 n3 k3 n4 k4 : Nat) (A : Option Addr) (n c : Nat) (evs : List Ev) (w : World) (hW : SocW w s A1 n1 A2 n2 A3 n3 A4 n4) (hchk : checkS s = 0) (hnd6 : n4 ≤ 6) (hs : EvS (all w) A evs) (hn : n = evs.length) (hn2 : (n : Int) ≤ 9223372036854775806) :
    Calls Try.prog 32 #[.agg #[.slice A1 n1 k1, .slice A2 n2 k2, .slice A3 n3 k3, .slice A4 n4 k4], .slice A n c] w (Rt (.tuple #[.int .i64 (ordF s.devs evs), .int .i64 0]) w) := by
  have hn4 := hW.len4
  refine XC.enter (vs := [.agg #[.slice A1 n1 k1, .slice A2 n2 k2, .slice A3 n3 k3, .slice A4 n4 k4], .slice A n c]) Try.func32 rfl Try.ntmps32 (by simp) (St.start w) ?_
  dsimp only [List.cons_append, List.nil_append]
  refine XC.seq ?_

  refine XC.regionW (by kernel_rfl) ?_
  refine xk_box rfl (by decide) fun g1 => ?_
  refine xk_alloc (cs := [.int .i64 0]) (zeroB_of (by kernel_rfl)) (by decide) fun g2 => ?_
  refine xk_alloc (cs := [.int .i64 0]) (zeroB_of (by kernel_rfl)) (by decide) fun g3 => ?_
  refine XC.endW ?_
  (repeat (first | refine XC.thenN ?_ | refine XC.thenE ?_ | refine XC.thenR ?_ | refine XC.inN ?_ | refine XC.inE ?_ | refine XC.inR ?_ | refine XC.inF rfl ?_))
  refine XC.seq ?_

  refine XC.regionW (by kernel_rfl) ?_
  refine xk_loadN 4 (by kernel_rfl) rfl (by first | assumption | exact RdN.whole 0 rfl | exact RdN.whole 1 rfl | exact RdN.whole 2 rfl | exact RdN.whole 3 rfl | exact RdN.whole 4 rfl | exact RdN.whole 5 rfl | exact RdN.whole 6 rfl | exact RdN.whole 7 rfl | exact RdN.whole 8 rfl | exact RdN.roc (by simp) (by assumption)) rfl (by decide) ?_
  refine xk_callN (f := 53) (fi := []) (ca := []) (by kernel_rfl) rfl rfl (by decide) (NewOk s) (fun w1 st => new_ok s A1 A2 A3 A4 n1 k1 n2 k2 n3 k3 n4 k4 w1 (hW.le (st.started (by simp))) hchk) ?_
  rintro _ _ qn ⟨gc, gm, An, kn, rfl, rfl, _⟩ _
  have hnl : (needsG s).length = n4 := by rw [hn4]; simp [needsG]
  rw [hnl]
  dsimp only [List.cons_append, List.nil_append]
  refine xk_move rfl (by decide) ?_
  refine xk_extract rfl rfl (by decide) ?_
  refine xk_extract rfl rfl (by decide) ?_
  refine xk_assign rfl (by decide) ?_
  refine xk_assign rfl (by decide) ?_
  refine XC.endW ?_
  (repeat (first | refine XC.thenN ?_ | refine XC.thenE ?_ | refine XC.thenR ?_ | refine XC.inN ?_ | refine XC.inE ?_ | refine XC.inR ?_ | refine XC.inF rfl ?_))
  refine XC.seq ?_
  refine XC.seq ?_

  refine XC.regionW (by kernel_rfl) ?_
  refine xk_move rfl (by decide) ?_
  refine xk_neq rfl rfl (by decide) ?_
  refine XC.endW ?_
  (repeat (first | refine XC.thenN ?_ | refine XC.thenE ?_ | refine XC.thenR ?_ | refine XC.inN ?_ | refine XC.inE ?_ | refine XC.inR ?_ | refine XC.inF rfl ?_))
  refine XC.if_ rfl (fun h => ?_) (fun h => ?_)
  ·
    refine XC.seq ?_

    refine XC.regionW (by kernel_rfl) ?_
    refine xk_move rfl (by decide) ?_
    (first | (refine xk_store 0 rfl (by kernel_rfl) rfl rfl rfl (by first | (simp; done) | (simp [Value.cells]; done)) ?_) | (refine xk_store 1 rfl (by kernel_rfl) rfl rfl rfl (by first | (simp; done) | (simp [Value.cells]; done)) ?_) | (refine xk_store 2 rfl (by kernel_rfl) rfl rfl rfl (by first | (simp; done) | (simp [Value.cells]; done)) ?_) | (refine xk_store 3 rfl (by kernel_rfl) rfl rfl rfl (by first | (simp; done) | (simp [Value.cells]; done)) ?_) | (refine xk_store 4 rfl (by kernel_rfl) rfl rfl rfl (by first | (simp; done) | (simp [Value.cells]; done)) ?_) | (refine xk_store 5 rfl (by kernel_rfl) rfl rfl rfl (by first | (simp; done) | (simp [Value.cells]; done)) ?_) | (refine xk_store 6 rfl (by kernel_rfl) rfl rfl rfl (by first | (simp; done) | (simp [Value.cells]; done)) ?_) | (refine xk_store 7 rfl (by kernel_rfl) rfl rfl rfl (by first | (simp; done) | (simp [Value.cells]; done)) ?_) | (refine xk_store 8 rfl (by kernel_rfl) rfl rfl rfl (by first | (simp; done) | (simp [Value.cells]; done)) ?_)); dsimp only [List.set]
    (first | (refine xk_store 0 rfl (by kernel_rfl) rfl rfl rfl (by first | (simp; done) | (simp [Value.cells]; done)) ?_) | (refine xk_store 1 rfl (by kernel_rfl) rfl rfl rfl (by first | (simp; done) | (simp [Value.cells]; done)) ?_) | (refine xk_store 2 rfl (by kernel_rfl) rfl rfl rfl (by first | (simp; done) | (simp [Value.cells]; done)) ?_) | (refine xk_store 3 rfl (by kernel_rfl) rfl rfl rfl (by first | (simp; done) | (simp [Value.cells]; done)) ?_) | (refine xk_store 4 rfl (by kernel_rfl) rfl rfl rfl (by first | (simp; done) | (simp [Value.cells]; done)) ?_) | (refine xk_store 5 rfl (by kernel_rfl) rfl rfl rfl (by first | (simp; done) | (simp [Value.cells]; done)) ?_) | (refine xk_store 6 rfl (by kernel_rfl) rfl rfl rfl (by first | (simp; done) | (simp [Value.cells]; done)) ?_) | (refine xk_store 7 rfl (by kernel_rfl) rfl rfl rfl (by first | (simp; done) | (simp [Value.cells]; done)) ?_) | (refine xk_store 8 rfl (by kernel_rfl) rfl rfl rfl (by first | (simp; done) | (simp [Value.cells]; done)) ?_)); dsimp only [List.set]
    refine XC.endW ?_
    (repeat (first | refine XC.thenN ?_ | refine XC.thenE ?_ | refine XC.thenR ?_ | refine XC.inN ?_ | refine XC.inE ?_ | refine XC.inR ?_ | refine XC.inF rfl ?_))
    refine XC.ret ?_
    (repeat (first | refine XC.thenN ?_ | refine XC.thenE ?_ | refine XC.thenR ?_ | refine XC.inN ?_ | refine XC.inE ?_ | refine XC.inR ?_ | refine XC.inF rfl ?_))
    exact absurd rfl h
  ·
    refine XC.skip ?_
    (repeat (first | refine XC.thenN ?_ | refine XC.thenE ?_ | refine XC.thenR ?_ | refine XC.inN ?_ | refine XC.inE ?_ | refine XC.inR ?_ | refine XC.inF rfl ?_))
    refine XC.seq ?_

    refine XC.regionW (by kernel_rfl) ?_
    refine xk_field (off := 3) (by kernel_rfl) rfl (by decide) ?_
    refine xk_load (by kernel_rfl) rfl (by first | assumption | exact Rd.blk 0 rfl rfl | exact Rd.blk 1 rfl rfl | exact Rd.blk 2 rfl rfl | exact Rd.blk 3 rfl rfl | exact Rd.blk 4 rfl rfl | exact Rd.blk 5 rfl rfl | exact Rd.blk 6 rfl rfl | exact Rd.blk 7 rfl rfl | exact Rd.blk 8 rfl rfl | exact Rd.roc (by simp) (by assumption) | (apply Rd.rocN (by simp); assumption; rfl)) (by decide) ?_
    refine xk_move rfl (by decide) ?_
    refine xk_buildS (zs := [.slice none 0 0, .pointer none, .int .i64 0, .int .i64 0, .int .i64 0, .int .i64 0, .int .i64 0, .int .i64 0, .int .i64 0, .int .i64 0, .int .i64 0, .int .i64 0, .int .i64 0, .int .i64 0, .int .i64 0, .int .i64 0, .int .i64 0, .int .i64 0, .int .i64 0, .int .i64 0]) (L := [(0, 1), (1, 1), (2, 18)]) (zeroB_of (by kernel_rfl)) (by kernel_rfl) rfl (by simp [fillL, setN, Value.cells]; rfl) (by decide) ?_
    refine xk_alloc (cs := [.slice none 0 0, .pointer none, .int .i64 0, .int .i64 0, .int .i64 0, .int .i64 0, .int .i64 0, .int .i64 0, .int .i64 0, .int .i64 0, .int .i64 0, .int .i64 0, .int .i64 0, .int .i64 0, .int .i64 0, .int .i64 0, .int .i64 0, .int .i64 0, .int .i64 0, .int .i64 0]) (zeroB_of (by kernel_rfl)) (by decide) fun g4 => ?_
    (first | (refine xk_storeN 0 rfl rfl rfl (by kernel_rfl) (by simp [Value.cells, Value.oneCell']) (by simp [Value.cells]) ?_) | (refine xk_storeN 1 rfl rfl rfl (by kernel_rfl) (by simp [Value.cells, Value.oneCell']) (by simp [Value.cells]) ?_) | (refine xk_storeN 2 rfl rfl rfl (by kernel_rfl) (by simp [Value.cells, Value.oneCell']) (by simp [Value.cells]) ?_) | (refine xk_storeN 3 rfl rfl rfl (by kernel_rfl) (by simp [Value.cells, Value.oneCell']) (by simp [Value.cells]) ?_) | (refine xk_storeN 4 rfl rfl rfl (by kernel_rfl) (by simp [Value.cells, Value.oneCell']) (by simp [Value.cells]) ?_) | (refine xk_storeN 5 rfl rfl rfl (by kernel_rfl) (by simp [Value.cells, Value.oneCell']) (by simp [Value.cells]) ?_) | (refine xk_storeN 6 rfl rfl rfl (by kernel_rfl) (by simp [Value.cells, Value.oneCell']) (by simp [Value.cells]) ?_) | (refine xk_storeN 7 rfl rfl rfl (by kernel_rfl) (by simp [Value.cells, Value.oneCell']) (by simp [Value.cells]) ?_) | (refine xk_storeN 8 rfl rfl rfl (by kernel_rfl) (by simp [Value.cells, Value.oneCell']) (by simp [Value.cells]) ?_)); simp only [putN, Value.cells, List.set, List.take, List.drop, List.nil_append, List.append_nil, List.length_cons, List.length_nil, List.cons_append, Nat.reduceAdd]
    refine XC.endW ?_
    (repeat (first | refine XC.thenN ?_ | refine XC.thenE ?_ | refine XC.thenR ?_ | refine XC.inN ?_ | refine XC.inE ?_ | refine XC.inR ?_ | refine XC.inF rfl ?_))
    refine XC.seq ?_
    refine XK.weak (R' := [all w]) [0, 1, 2, 3, 5] rfl (by decide) (by simp) ?_
    refine XK.pair ?_
    refine XK.newFact (q := ∀ j, j < 0 → badAt s.devs (selE evs) j = false) (fun _ h => absurd h (Nat.not_lt_zero _)) ?_

    refine XC.regionW (by kernel_rfl) ?_
    refine xk_alloc (cs := [.int .i64 0, .int .i64 0, .int .i64 0]) (zeroB_of (by kernel_rfl)) (by decide) fun g5 => ?_
    refine XC.endW ?_
    (repeat (first | refine XC.thenN ?_ | refine XC.thenE ?_ | refine XC.thenR ?_ | refine XC.inN ?_ | refine XC.inE ?_ | refine XC.inR ?_ | refine XC.inF rfl ?_))
    refine XC.seq ?_
    refine XC.seq ?_

    refine XC.regionW (by kernel_rfl) ?_
    refine xk_move rfl (by decide) ?_
    refine xk_call [all w] (f := 41) (fi := []) (ca := []) (by kernel_rfl) rfl rfl (by decide) (by simp) (CallsOk (all w) A n evs) (fun w1 st => calls_ok (all w) A n c evs w1 hs hn hn2) ?_
    rintro _ w1 qc ⟨g6, rfl, hit'⟩ hf Lc _
    have Lc := Lc (all w) (by simp)
    have hs2 := hs.le Lc
    obtain ⟨b, off, hA⟩ : ∃ b off, 0 < n → A = some ⟨b, off, none⟩ := by
      rcases Nat.eq_zero_or_pos n with h0 | h0
      · exact ⟨0, 0, fun h => by omega⟩
      · obtain ⟨b, off, hA, _⟩ := hs.2 (by omega)
        exact ⟨b, off, fun _ => hA⟩
    have hit := hit' qc Lc hf b off hA
    clear hit' hf
    refine XC.endW ?_
    (repeat (first | refine XC.thenN ?_ | refine XC.thenE ?_ | refine XC.thenR ?_ | refine XC.inN ?_ | refine XC.inE ?_ | refine XC.inR ?_ | refine XC.inF rfl ?_))
    refine XC.block ?_
    refine XK.env [(27, .func (.func 64) #[] #[.pointer (some ⟨g6, 0, none⟩)]), (9, .pointer (some ⟨g5, 0, none⟩)), (8, .pointer (some ⟨g4, 0, none⟩)), (5, .pointer (some ⟨g3, 0, none⟩)), (4, .pointer (some ⟨g2, 0, none⟩))] ⟨rfl, rfl, rfl, rfl, rfl, trivial⟩ ?_
    refine XK.weak (R' := [qc, all w]) [2, 0, 3, 4, 1, 5] rfl (by decide) (by simp) ?_
    refine XC.range (gf := 64) (lb := [.pointer (some ⟨g6, 0, none⟩)]) (encs := idEncs b off (selIds evs)) (p := qc) rfl (by kernel_rfl) hit (by simp) (fun vs hvs => ?_) (by decide) (fun k => [CrsH g4 gc gm (.slice A4 n4 k4) (.slice An n4 kn) ((oSt s.devs (selE evs) k).x), HP.blk g5 125 (iCells (oSt s.devs (selE evs) k).last), HP.blk g3 33 [.int .i64 0], HP.blk g2 3 [.int .i64 0], HP.pure (∀ j, j < k → badAt s.devs (selE evs) j = false)]) (fun _ => [HP.blk g3 33 [.int .i64 0], HP.blk g2 3 [.int .i64 (ordF s.devs evs)]])
      (fun k vs e1 H1 => ∃ i : Nat, (selIds evs)[k]? = some i ∧ e1 = [(11, evPtr b off i), (10, .int .i64 (i : Int)), (9, .pointer (some ⟨g5, 0, none⟩)), (8, .pointer (some ⟨g4, 0, none⟩)), (5, .pointer (some ⟨g3, 0, none⟩)), (4, .pointer (some ⟨g2, 0, none⟩))] ∧ H1 = [CrsH g4 gc gm (.slice A4 n4 k4) (.slice An n4 kn) ((oSt s.devs (selE evs) k).x), HP.blk g5 125 (iCells (oSt s.devs (selE evs) k).last), HP.blk g3 33 [.int .i64 0], HP.blk g2 3 [.int .i64 0], HP.pure (∀ j, j < k → badAt s.devs (selE evs) j = false)]) rfl ?_ ?_ ?_ ?_
    · simp only [idEncs, List.mem_map] at hvs
      obtain ⟨i, _, rfl⟩ := hvs
      rfl
    ·
      intro l2 k vs W1 q X hvs hsm
      obtain ⟨i, hik, rfl⟩ := idEncs_get hvs
      dsimp only [bindE, List.cons_append, List.nil_append]
      refine XC.seq ?_

      refine XC.regionW (by kernel_rfl) ?_
      refine xk_assign rfl (by decide) ?_
      refine XC.endW ?_
      (repeat (first | refine XC.thenN ?_ | refine XC.thenE ?_ | refine XC.thenR ?_ | refine XC.inN ?_ | refine XC.inE ?_ | refine XC.inR ?_ | refine XC.inF rfl ?_))

      refine XC.regionW (by kernel_rfl) ?_
      refine xk_assign rfl (by decide) ?_
      refine XC.endW ?_
      (repeat (first | refine XC.thenN ?_ | refine XC.thenE ?_ | refine XC.thenR ?_ | refine XC.inN ?_ | refine XC.inE ?_ | refine XC.inR ?_ | refine XC.inF rfl ?_))
      refine XK.env [(11, evPtr b off i), (10, .int .i64 (i : Int)), (9, .pointer (some ⟨g5, 0, none⟩)), (8, .pointer (some ⟨g4, 0, none⟩)), (5, .pointer (some ⟨g3, 0, none⟩)), (4, .pointer (some ⟨g2, 0, none⟩))] ⟨rfl, rfl, rfl, rfl, rfl, rfl, trivial⟩ ?_
      exact XC.assigned (H1 := [CrsH g4 gc gm (.slice A4 n4 k4) (.slice An n4 kn) ((oSt s.devs (selE evs) k).x), HP.blk g5 125 (iCells (oSt s.devs (selE evs) k).last), HP.blk g3 33 [.int .i64 0], HP.blk g2 3 [.int .i64 0], HP.pure (∀ j, j < k → badAt s.devs (selE evs) j = false)]) ⟨i, hik, rfl, rfl⟩
    ·
      rintro l2 k vs W1 q X _ _ hvs hsm ⟨i, hik, rfl, rfl⟩
      obtain ⟨x, hev, hxk, hsel⟩ := selE_get hik
      have htk := sel_task hsel
      have hin : i < n := by rw [hn]; exact (List.getElem?_eq_some_iff.1 hev).1
      obtain rfl := hA (by omega)
      obtain ⟨hz, hcs⟩ := hs2.ev hev
      have hl3 := (oSt_len s.devs (selE evs) k).1
      obtain ⟨lv, hlv⟩ : ∃ v, (oSt s.devs (selE evs) k).last[x.task.toNat]? = some v := ⟨_, List.getElem?_eq_getElem (by omega)⟩
      have hla : lastAt (oSt s.devs (selE evs) k) x = lv := by rw [lastAt, hlv]; rfl
      dsimp only [List.cons_append, List.nil_append, evPtr]
      refine XC.block ?_
      refine XC.seq ?_
      refine XC.seq ?_

      refine XC.regionW (by kernel_rfl) ?_
      refine xk_move rfl (by decide) ?_
      refine xk_nilC rfl (by decide) ?_
      refine xk_field (off := 0) (by kernel_rfl) rfl (by decide) ?_
      refine xk_load (by kernel_rfl) rfl (Rd.ro (p := qc) (by simp) hz (hcs 0 _ rfl)) (by decide) ?_
      refine xk_eql rfl rfl (by decide) ?_
      refine XC.endW ?_
      (repeat (first | refine XC.thenN ?_ | refine XC.thenE ?_ | refine XC.thenR ?_ | refine XC.inN ?_ | refine XC.inE ?_ | refine XC.inR ?_ | refine XC.inF rfl ?_))
      refine XC.if_ rfl (fun hk98 => ?_) (fun hk98 => ?_)
      ·
        refine XC.seq ?_

        refine XC.draw1 [qc, all w, q] [HP.blk g5 125 (iCells (oSt s.devs (selE evs) k).last), HP.blk g3 33 [.int .i64 0], HP.blk g2 3 [.int .i64 0], HP.pure (∀ j, j < k → badAt s.devs (selE evs) j = false), X] 13 (by kernel_rfl) (by kernel_rfl) ?_
        simp only [List.take_succ_cons, List.take_zero, List.drop_succ_cons, List.drop_zero]
        refine XA.do_ 0 rfl rfl rfl (by decide) (does_move rfl) (by kernel_rfl) (fun _ _ _ h => h) (fun _ h => h.tail) ?_
        refine XA.do_ 1 rfl rfl rfl (by decide) (does_nilC rfl) (by kernel_rfl) (fun _ _ _ h => h) (fun _ h => h.tail) ?_
        refine XA.do_ 2 rfl rfl rfl (by decide) (does_field (off := 1) (by kernel_rfl) rfl) (by kernel_rfl) (fun _ _ _ h => h) (fun _ h => h.tail) ?_
        refine XA.do_ 3 rfl rfl rfl (by decide) (does_load (by kernel_rfl) rfl (Rd.ro (p := qc) (by simp) hz (hcs 1 _ rfl))) (by kernel_rfl) (fun _ _ _ h => h) (fun _ h => h.tail) ?_
        refine XA.do_ 4 rfl rfl rfl (by decide) (does_move rfl) (by kernel_rfl) (fun _ _ _ h => h) (fun _ h => h.tail) ?_
        refine XA.do_ 5 rfl rfl rfl (by decide) (does_nilC rfl) (by kernel_rfl) (fun _ _ _ h => h) (fun _ h => h.tail) ?_
        refine XA.do_ 6 rfl rfl rfl (by decide) (does_field (off := 1) (by kernel_rfl) rfl) (by kernel_rfl) (fun _ _ _ h => h) (fun _ h => h.tail) ?_
        refine XA.do_ 7 rfl rfl rfl (by decide) (does_load (by kernel_rfl) rfl (Rd.ro (p := qc) (by simp) hz (hcs 1 _ rfl))) (by kernel_rfl) (fun _ _ _ h => h) (fun _ h => h.tail) ?_
        refine XA.do_ 8 rfl rfl rfl (by decide) (does_move rfl) (by kernel_rfl) (fun _ _ _ h => h) (fun _ h => h.tail) ?_
        refine XA.do_ 9 rfl rfl rfl (by decide) (does_nilC rfl) (by kernel_rfl) (fun _ _ _ h => h) (fun _ h => h.tail) ?_
        refine XA.do_ 10 rfl rfl rfl (by decide) (does_field (off := 2) (by kernel_rfl) rfl) (by kernel_rfl) (fun _ _ _ h => h) (fun _ h => h.tail) ?_
        refine XA.do_ 11 rfl rfl rfl (by decide) (does_loadN 4 (by kernel_rfl) rfl (RdN.of (vs := [.int .u8 x.ck, .int .i64 x.dev, .int .i64 x.reg, .int .u32 x.cv]) fun f v hf => Rd.ro (p := qc) (by simp) hz (ev_call hcs f v hf)) rfl) (by kernel_rfl) (fun _ _ _ h => h) (fun _ h => h.tail) ?_
        refine XA.next 12 rfl (by kernel_rfl) ?_
        refine xk_callE (f := 54) (fi := []) (ca := []) 0 (CrsH g4 gc gm (.slice A4 n4 k4) (.slice An n4 kn) ((effF s.devs (oSt s.devs (selE evs) k).x x.task.toNat x.ck x.dev x.reg).2)) (by kernel_rfl) rfl rfl rfl ⟨by decide, rfl⟩ (fun w1 F1 st hp1 hF1 hle => eff_mi g4 gc gm n4 k4 kn A4 An s.devs _ x.task x.ck x.dev x.reg x.cv w1 F1 hp1 hF1 (hW.dev.mono (slq_le (hle (all w) (by simp))) (fun _ _ h => h.mono (slq_le (hle (all w) (by simp))))) hn4 hnd6 htk.1 htk.2 (oSt_len _ _ _).2) ?_
        dsimp only [List.set]
        refine XK.nil ?_; refine XK.thenN ?_; refine XA.back (fun _ h => h.tail) ?_
        refine XA.done (by kernel_rfl) ?_
        refine XI.start ?_
        refine XI.op (by kernel_rfl) ?_; refine xk_atA x.task.toNat x.task.toNat (n := 3) (el := 33) (sz := 1) (by kernel_rfl) (by kernel_rfl) rfl rfl (by omega) (by omega) (by omega) (by decide) ?_; refine XI.back ?_
        refine XI.op (by kernel_rfl) ?_; refine xk_store 1 rfl (by kernel_rfl) rfl rfl rfl (by rw [iCells, List.length_map, (oSt_len _ _ _).1]; omega) ?_; dsimp only [List.set]; rw [iCells_set]; refine XI.back ?_
        refine XI.nil ?_
        (repeat (first | refine XC.thenN ?_ | refine XC.thenE ?_ | refine XC.thenR ?_ | refine XC.inN ?_ | refine XC.inE ?_ | refine XC.inR ?_ | refine XC.inF rfl ?_))
        refine XC.exit ?_
        (repeat (first | refine XC.thenN ?_ | refine XC.thenE ?_ | refine XC.thenR ?_ | refine XC.inN ?_ | refine XC.inE ?_ | refine XC.inR ?_ | refine XC.inF rfl ?_))
        have hnx : oSt s.devs (selE evs) (k + 1) = oStep s.devs (oSt s.devs (selE evs) k) x := oSt_next hxk
        have hb : badAt s.devs (selE evs) k = false := by rw [badAt, hxk]; simp [oBad, hk98]
        refine XK.fact 4 rfl fun hfk => ?_
        refine XK.setFact 4 (q := ∀ j, j < k + 1 → badAt s.devs (selE evs) j = false) rfl (fun j hj => by
          rcases Nat.lt_or_ge j k with h1 | h1
          · exact hfk j h1
          · obtain rfl : j = k := by omega
            exact hb) ?_
        dsimp only [List.set]
        rw [hnx, oStep]
        rw [if_pos hk98]
        exact XC.bodyN
      ·
        refine XC.skip ?_
        (repeat (first | refine XC.thenN ?_ | refine XC.thenE ?_ | refine XC.thenR ?_ | refine XC.inN ?_ | refine XC.inE ?_ | refine XC.inR ?_ | refine XC.inF rfl ?_))
        refine XC.seq ?_

        refine XC.regionW (by kernel_rfl) ?_
        refine xk_move rfl (by decide) ?_
        refine xk_nilC rfl (by decide) ?_
        refine xk_field (off := 1) (by kernel_rfl) rfl (by decide) ?_
        refine xk_load (by kernel_rfl) rfl (Rd.ro (p := qc) (by simp) hz (hcs 1 _ rfl)) (by decide) ?_
        refine xk_atA x.task.toNat x.task.toNat (n := 3) (el := 33) (sz := 1) (by kernel_rfl) (by kernel_rfl) rfl rfl (by omega) (by omega) (by omega) (by decide) ?_
        refine xk_load (by kernel_rfl) rfl (Rd.blk 1 rfl (iCells_at hlv)) (by decide) ?_
        refine xk_neq rfl rfl (by decide) ?_
        refine xk_assign rfl (by decide) ?_
        refine XC.endW ?_
        (repeat (first | refine XC.thenN ?_ | refine XC.thenE ?_ | refine XC.thenR ?_ | refine XC.inN ?_ | refine XC.inE ?_ | refine XC.inR ?_ | refine XC.inF rfl ?_))
        refine XC.cutB 13 (x.ck = 114 ∨ x.ck = 119) ?_ ?_
        · skip

          refine XC.regionW (by kernel_rfl) ?_
          refine xk_move rfl (by decide) ?_
          refine xk_nilC rfl (by decide) ?_
          refine xk_field (off := 2) (by kernel_rfl) rfl (by decide) ?_
          refine xk_field (off := 0) (by kernel_rfl) rfl (by decide) ?_
          refine xk_load (by kernel_rfl) rfl (Rd.ro (p := qc) (by simp) hz (hcs 2 _ rfl)) (by decide) ?_
          refine xk_eql rfl rfl (by decide) ?_
          refine xk_move rfl (by decide) ?_
          (first | refine xk_split (t := 62) rfl (fun hg => ?_) (fun hg => ?_) | refine xk_splitB (t := 62) rfl (fun hg => ?_) (fun hg => ?_))
          ·
            refine xk_guardF rfl rfl rfl (by decide) ?_
            refine xk_guardF rfl rfl rfl (by decide) ?_
            refine xk_guardF rfl rfl rfl (by decide) ?_
            refine xk_guardF rfl rfl rfl (by decide) ?_
            refine xk_guardF rfl rfl rfl (by decide) ?_
            refine xk_guardF rfl rfl rfl (by decide) ?_
            (first | refine xk_pickT rfl rfl (by decide) ?_ | refine xk_pickF rfl rfl (by decide) ?_)
            refine xk_assign rfl (by decide) ?_
            refine XC.endW ?_
            (repeat (first | refine XC.thenN ?_ | refine XC.thenE ?_ | refine XC.thenR ?_ | refine XC.inN ?_ | refine XC.inE ?_ | refine XC.inR ?_ | refine XC.inF rfl ?_))
            exact XC.meetB (by repeat (first | exact trivial | refine ⟨rfl, ?_⟩)) (by first | exact get_iff rfl (by first | omega | simp_all) | exact get_false rfl (by first | omega | simp_all) | exact get_true rfl (by first | omega | simp_all))
          ·
            refine xk_guardT rfl rfl ?_; refine xk_move rfl (by decide) ?_
            refine xk_guardT rfl rfl ?_; refine xk_nilC rfl (by decide) ?_
            refine xk_guardT rfl rfl ?_; refine xk_field (off := 2) (by kernel_rfl) rfl (by decide) ?_
            refine xk_guardT rfl rfl ?_; refine xk_field (off := 0) (by kernel_rfl) rfl (by decide) ?_
            refine xk_guardT rfl rfl ?_; refine xk_load (by kernel_rfl) rfl (Rd.ro (p := qc) (by simp) hz (hcs 2 _ rfl)) (by decide) ?_
            refine xk_guardT rfl rfl ?_; refine xk_eql rfl rfl (by decide) ?_
            (first | refine xk_pickT rfl rfl (by decide) ?_ | refine xk_pickF rfl rfl (by decide) ?_)
            refine xk_assign rfl (by decide) ?_
            refine XC.endW ?_
            (repeat (first | refine XC.thenN ?_ | refine XC.thenE ?_ | refine XC.thenR ?_ | refine XC.inN ?_ | refine XC.inE ?_ | refine XC.inR ?_ | refine XC.inF rfl ?_))
            exact XC.meetB (by repeat (first | exact trivial | refine ⟨rfl, ?_⟩)) (by first | exact get_iff rfl (by first | omega | simp_all) | exact get_false rfl (by first | omega | simp_all) | exact get_true rfl (by first | omega | simp_all))
        refine XC.cutB 96 (x.err ≠ lastAt (oSt s.devs (selE evs) k) x ∨ (x.rv ≠ 0 ∧ (lastAt (oSt s.devs (selE evs) k) x ≠ 0 ∨ ¬ (x.ck = 114 ∨ x.ck = 119)))) ?_ ?_
        · skip

          refine XC.draw 11 (by kernel_rfl) (by kernel_rfl) ?_
          simp only [List.take_succ_cons, List.take_zero, List.drop_succ_cons, List.drop_zero]
          refine XA.do_ 0 rfl rfl rfl (by decide) (does_move rfl) (by kernel_rfl) (fun _ _ _ h => h) (by first | exact fun _ h => h | exact fun _ h => h.tail | exact fun _ h => h.tailR | exact fun _ h => h.tail.tail | exact fun _ h => h.tailR.tail | exact fun _ h => h.tailR.tailR) ?_
          refine XA.do_ 1 rfl rfl rfl (by decide) (does_nilC rfl) (by kernel_rfl) (fun _ _ _ h => h) (by first | exact fun _ h => h | exact fun _ h => h.tail | exact fun _ h => h.tailR | exact fun _ h => h.tail.tail | exact fun _ h => h.tailR.tail | exact fun _ h => h.tailR.tailR) ?_
          refine XA.do_ 2 rfl rfl rfl (by decide) (does_field (off := 6) (by kernel_rfl) rfl) (by kernel_rfl) (fun _ _ _ h => h) (by first | exact fun _ h => h | exact fun _ h => h.tail | exact fun _ h => h.tailR | exact fun _ h => h.tail.tail | exact fun _ h => h.tailR.tail | exact fun _ h => h.tailR.tailR) ?_
          refine XA.do_ 3 rfl rfl rfl (by decide) (does_field (off := 0) (by kernel_rfl) rfl) (by kernel_rfl) (fun _ _ _ h => h) (by first | exact fun _ h => h | exact fun _ h => h.tail | exact fun _ h => h.tailR | exact fun _ h => h.tail.tail | exact fun _ h => h.tailR.tail | exact fun _ h => h.tailR.tailR) ?_
          refine XA.do_ 4 rfl rfl rfl (by decide) (does_load (by kernel_rfl) rfl (Rd.ro (p := qc) (by simp) hz (hcs 6 _ rfl))) (by kernel_rfl) (fun _ _ _ h => h) (by first | exact fun _ h => h | exact fun _ h => h.tail | exact fun _ h => h.tailR | exact fun _ h => h.tail.tail | exact fun _ h => h.tailR.tail | exact fun _ h => h.tailR.tailR) ?_
          refine XA.do_ 5 rfl rfl rfl (by decide) (does_move rfl) (by kernel_rfl) (fun _ _ _ h => h) (by first | exact fun _ h => h | exact fun _ h => h.tail | exact fun _ h => h.tailR | exact fun _ h => h.tail.tail | exact fun _ h => h.tailR.tail | exact fun _ h => h.tailR.tailR) ?_
          refine XA.do_ 6 rfl rfl rfl (by decide) (does_nilC rfl) (by kernel_rfl) (fun _ _ _ h => h) (by first | exact fun _ h => h | exact fun _ h => h.tail | exact fun _ h => h.tailR | exact fun _ h => h.tail.tail | exact fun _ h => h.tailR.tail | exact fun _ h => h.tailR.tailR) ?_
          refine XA.do_ 7 rfl rfl rfl (by decide) (does_field (off := 1) (by kernel_rfl) rfl) (by kernel_rfl) (fun _ _ _ h => h) (by first | exact fun _ h => h | exact fun _ h => h.tail | exact fun _ h => h.tailR | exact fun _ h => h.tail.tail | exact fun _ h => h.tailR.tail | exact fun _ h => h.tailR.tailR) ?_
          refine XA.do_ 8 rfl rfl rfl (by decide) (does_load (by kernel_rfl) rfl (Rd.ro (p := qc) (by simp) hz (hcs 1 _ rfl))) (by kernel_rfl) (fun _ _ _ h => h) (by first | exact fun _ h => h | exact fun _ h => h.tail | exact fun _ h => h.tailR | exact fun _ h => h.tail.tail | exact fun _ h => h.tailR.tail | exact fun _ h => h.tailR.tailR) ?_
          refine XA.do_ 9 rfl rfl rfl (by decide) (does_atA x.task.toNat x.task.toNat (n := 3) (el := 33) (sz := 1) (by kernel_rfl) (by kernel_rfl) rfl rfl (by omega) (by omega) (by omega)) (by kernel_rfl) (fun _ _ _ h => h) (by first | exact fun _ h => h | exact fun _ h => h.tail | exact fun _ h => h.tailR | exact fun _ h => h.tail.tail | exact fun _ h => h.tailR.tail | exact fun _ h => h.tailR.tailR) ?_
          refine XA.do_ 10 rfl rfl rfl (by decide) (does_load (by kernel_rfl) rfl (Rd.blk 1 rfl (iCells_at hlv))) (by kernel_rfl) (fun _ _ _ h => h) (by first | exact fun _ h => h | exact fun _ h => h.tail | exact fun _ h => h.tailR | exact fun _ h => h.tail.tail | exact fun _ h => h.tailR.tail | exact fun _ h => h.tailR.tailR) ?_
          refine XA.done (by kernel_rfl) ?_
          refine XI.start ?_
          refine XI.op (by kernel_rfl) ?_; refine xk_neq rfl rfl (by decide) ?_; refine XI.back ?_
          refine XI.op (by kernel_rfl) ?_; refine xk_move rfl (by decide) ?_; refine XI.back ?_
          (first | refine xk_split (t := 82) rfl (fun hg => ?_) (fun hg => ?_) | refine xk_splitB (t := 82) rfl (fun hg => ?_) (fun hg => ?_))
          ·
            refine XI.op (by kernel_rfl) ?_; refine xk_guardF rfl rfl rfl (by decide) ?_; refine XI.back ?_
            refine XI.op (by kernel_rfl) ?_; refine xk_guardF rfl rfl rfl (by decide) ?_; refine XI.back ?_
            refine XI.op (by kernel_rfl) ?_; refine xk_guardF rfl rfl rfl (by decide) ?_; refine XI.back ?_
            refine XI.op (by kernel_rfl) ?_; refine xk_guardF rfl rfl rfl (by decide) ?_; refine XI.back ?_
            refine XI.op (by kernel_rfl) ?_; refine xk_guardF rfl rfl rfl (by decide) ?_; refine XI.back ?_
            refine XI.op (by kernel_rfl) ?_; refine xk_guardF rfl rfl rfl (by decide) ?_; refine XI.back ?_
            refine XI.op (by kernel_rfl) ?_; refine xk_guardF rfl rfl rfl (by decide) ?_; refine XI.back ?_
            refine XI.op (by kernel_rfl) ?_; refine xk_guardU rfl rfl (by decide) ?_; refine XI.back ?_
            refine XI.op (by kernel_rfl) ?_; refine xk_guardU rfl rfl (by decide) ?_; refine XI.back ?_
            refine XI.op (by kernel_rfl) ?_; refine xk_guardU rfl rfl (by decide) ?_; refine XI.back ?_
            refine XI.op (by kernel_rfl) ?_; refine xk_guardU rfl rfl (by decide) ?_; refine XI.back ?_
            refine XI.op (by kernel_rfl) ?_; refine xk_guardU rfl rfl (by decide) ?_; refine XI.back ?_
            refine XI.op (by kernel_rfl) ?_; refine xk_guardF rfl rfl rfl (by decide) ?_; refine XI.back ?_
            refine XI.op (by kernel_rfl) ?_; (first | refine xk_pickT rfl rfl (by decide) ?_ | refine xk_pickF rfl rfl (by decide) ?_); refine XI.back ?_
            refine XI.nil ?_
            (repeat (first | refine XC.thenN ?_ | refine XC.thenE ?_ | refine XC.thenR ?_ | refine XC.inN ?_ | refine XC.inE ?_ | refine XC.inR ?_ | refine XC.inF rfl ?_))
            exact XC.meetB (by repeat (first | exact trivial | refine ⟨rfl, ?_⟩)) (by first | exact get_iff rfl (by first | omega | simp_all) | exact get_false rfl (by first | omega | simp_all) | exact get_true rfl (by first | omega | simp_all))
          ·
            refine XI.op (by kernel_rfl) ?_; refine xk_guardT rfl rfl ?_; refine xk_move rfl (by decide) ?_; refine XI.back ?_
            refine XI.op (by kernel_rfl) ?_; refine xk_guardT rfl rfl ?_; refine xk_nilC rfl (by decide) ?_; refine XI.back ?_
            refine XI.op (by kernel_rfl) ?_; refine xk_guardT rfl rfl ?_; refine xk_field (off := 6) (by kernel_rfl) rfl (by decide) ?_; refine XI.back ?_
            refine XI.op (by kernel_rfl) ?_; refine xk_guardT rfl rfl ?_; refine xk_field (off := 1) (by kernel_rfl) rfl (by decide) ?_; refine XI.back ?_
            refine XI.op (by kernel_rfl) ?_; refine xk_guardT rfl rfl ?_; refine xk_load (by kernel_rfl) rfl (Rd.ro (p := qc) (by simp) hz (hcs 7 _ rfl)) (by decide) ?_; refine XI.back ?_
            refine XI.op (by kernel_rfl) ?_; refine xk_guardT rfl rfl ?_; refine xk_neq rfl rfl (by decide) ?_; refine XI.back ?_
            refine XI.op (by kernel_rfl) ?_; refine xk_guardT rfl rfl ?_; refine xk_move rfl (by decide) ?_; refine XI.back ?_
            (first | refine xk_split (t := 89) rfl (fun hg => ?_) (fun hg => ?_) | refine xk_splitB (t := 89) rfl (fun hg => ?_) (fun hg => ?_))
            ·
              refine XI.op (by kernel_rfl) ?_; refine xk_guardT rfl rfl ?_; refine xk_move rfl (by decide) ?_; refine XI.back ?_
              refine XI.op (by kernel_rfl) ?_; refine xk_guardT rfl rfl ?_; refine xk_move rfl (by decide) ?_; refine XI.back ?_
              (first | refine xk_split (t := 91) rfl (fun hg => ?_) (fun hg => ?_) | refine xk_splitB (t := 91) rfl (fun hg => ?_) (fun hg => ?_))
              ·
                refine XI.op (by kernel_rfl) ?_; refine xk_guardF rfl rfl rfl (by decide) ?_; refine XI.back ?_
                refine XI.op (by kernel_rfl) ?_; refine xk_guardF rfl rfl rfl (by decide) ?_; refine XI.back ?_
                refine XI.op (by kernel_rfl) ?_; refine xk_guardT rfl rfl ?_; (first | refine xk_pickT rfl rfl (by decide) ?_ | refine xk_pickF rfl rfl (by decide) ?_); refine XI.back ?_
                refine XI.op (by kernel_rfl) ?_; refine xk_guardT rfl rfl ?_; (first | refine xk_pickT rfl rfl (by decide) ?_ | refine xk_pickF rfl rfl (by decide) ?_); refine XI.back ?_
                refine XI.op (by kernel_rfl) ?_; (first | refine xk_pickT rfl rfl (by decide) ?_ | refine xk_pickF rfl rfl (by decide) ?_); refine XI.back ?_
                refine XI.nil ?_
                (repeat (first | refine XC.thenN ?_ | refine XC.thenE ?_ | refine XC.thenR ?_ | refine XC.inN ?_ | refine XC.inE ?_ | refine XC.inR ?_ | refine XC.inF rfl ?_))
                exact XC.meetB (by repeat (first | exact trivial | refine ⟨rfl, ?_⟩)) (by first | exact get_iff rfl (by first | omega | simp_all) | exact get_false rfl (by first | omega | simp_all) | exact get_true rfl (by first | omega | simp_all))
              ·
                refine XI.op (by kernel_rfl) ?_; refine xk_guardT rfl rfl ?_; refine xk_move rfl (by decide) ?_; refine XI.back ?_
                refine XI.op (by kernel_rfl) ?_; refine xk_guardT rfl rfl ?_; (first | refine xk_notD rfl (by decide) ?_ | refine xk_not rfl (by decide) ?_); refine XI.back ?_
                refine XI.op (by kernel_rfl) ?_; refine xk_guardT rfl rfl ?_; (first | refine xk_pickT rfl rfl (by decide) ?_ | refine xk_pickF rfl rfl (by decide) ?_); refine XI.back ?_
                refine XI.op (by kernel_rfl) ?_; refine xk_guardT rfl rfl ?_; (first | refine xk_pickT rfl rfl (by decide) ?_ | refine xk_pickF rfl rfl (by decide) ?_); refine XI.back ?_
                refine XI.op (by kernel_rfl) ?_; (first | refine xk_pickT rfl rfl (by decide) ?_ | refine xk_pickF rfl rfl (by decide) ?_); refine XI.back ?_
                refine XI.nil ?_
                (repeat (first | refine XC.thenN ?_ | refine XC.thenE ?_ | refine XC.thenR ?_ | refine XC.inN ?_ | refine XC.inE ?_ | refine XC.inR ?_ | refine XC.inF rfl ?_))
                exact XC.meetB (by repeat (first | exact trivial | refine ⟨rfl, ?_⟩)) (by first | exact get_iff rfl (by first | omega | simp_all) | exact get_false rfl (by first | omega | simp_all) | exact get_true rfl (by first | omega | simp_all))
            ·
              refine XI.op (by kernel_rfl) ?_; refine xk_guardF rfl rfl rfl (by decide) ?_; refine XI.back ?_
              refine XI.op (by kernel_rfl) ?_; refine xk_guardF rfl rfl rfl (by decide) ?_; refine XI.back ?_
              refine XI.op (by kernel_rfl) ?_; refine xk_guardU rfl rfl (by decide) ?_; refine XI.back ?_
              refine XI.op (by kernel_rfl) ?_; refine xk_guardU rfl rfl (by decide) ?_; refine XI.back ?_
              refine XI.op (by kernel_rfl) ?_; refine xk_guardF rfl rfl rfl (by decide) ?_; refine XI.back ?_
              refine XI.op (by kernel_rfl) ?_; refine xk_guardT rfl rfl ?_; (first | refine xk_pickT rfl rfl (by decide) ?_ | refine xk_pickF rfl rfl (by decide) ?_); refine XI.back ?_
              refine XI.op (by kernel_rfl) ?_; (first | refine xk_pickT rfl rfl (by decide) ?_ | refine xk_pickF rfl rfl (by decide) ?_); refine XI.back ?_
              refine XI.nil ?_
              (repeat (first | refine XC.thenN ?_ | refine XC.thenE ?_ | refine XC.thenR ?_ | refine XC.inN ?_ | refine XC.inE ?_ | refine XC.inR ?_ | refine XC.inF rfl ?_))
              exact XC.meetB (by repeat (first | exact trivial | refine ⟨rfl, ?_⟩)) (by first | exact get_iff rfl (by first | omega | simp_all) | exact get_false rfl (by first | omega | simp_all) | exact get_true rfl (by first | omega | simp_all))
        refine XC.if_ rfl (fun hbad => ?_) (fun hbad => ?_)
        ·
          refine XC.seq ?_

          refine XC.regionW (by kernel_rfl) ?_
          refine xk_move rfl (by decide) ?_
          (first | (refine xk_store 0 rfl (by kernel_rfl) rfl rfl rfl (by first | (simp; done) | (simp [Value.cells]; done)) ?_) | (refine xk_store 1 rfl (by kernel_rfl) rfl rfl rfl (by first | (simp; done) | (simp [Value.cells]; done)) ?_) | (refine xk_store 2 rfl (by kernel_rfl) rfl rfl rfl (by first | (simp; done) | (simp [Value.cells]; done)) ?_) | (refine xk_store 3 rfl (by kernel_rfl) rfl rfl rfl (by first | (simp; done) | (simp [Value.cells]; done)) ?_) | (refine xk_store 4 rfl (by kernel_rfl) rfl rfl rfl (by first | (simp; done) | (simp [Value.cells]; done)) ?_) | (refine xk_store 5 rfl (by kernel_rfl) rfl rfl rfl (by first | (simp; done) | (simp [Value.cells]; done)) ?_) | (refine xk_store 6 rfl (by kernel_rfl) rfl rfl rfl (by first | (simp; done) | (simp [Value.cells]; done)) ?_) | (refine xk_store 7 rfl (by kernel_rfl) rfl rfl rfl (by first | (simp; done) | (simp [Value.cells]; done)) ?_) | (refine xk_store 8 rfl (by kernel_rfl) rfl rfl rfl (by first | (simp; done) | (simp [Value.cells]; done)) ?_)); dsimp only [List.set]
          (first | (refine xk_store 0 rfl (by kernel_rfl) rfl rfl rfl (by first | (simp; done) | (simp [Value.cells]; done)) ?_) | (refine xk_store 1 rfl (by kernel_rfl) rfl rfl rfl (by first | (simp; done) | (simp [Value.cells]; done)) ?_) | (refine xk_store 2 rfl (by kernel_rfl) rfl rfl rfl (by first | (simp; done) | (simp [Value.cells]; done)) ?_) | (refine xk_store 3 rfl (by kernel_rfl) rfl rfl rfl (by first | (simp; done) | (simp [Value.cells]; done)) ?_) | (refine xk_store 4 rfl (by kernel_rfl) rfl rfl rfl (by first | (simp; done) | (simp [Value.cells]; done)) ?_) | (refine xk_store 5 rfl (by kernel_rfl) rfl rfl rfl (by first | (simp; done) | (simp [Value.cells]; done)) ?_) | (refine xk_store 6 rfl (by kernel_rfl) rfl rfl rfl (by first | (simp; done) | (simp [Value.cells]; done)) ?_) | (refine xk_store 7 rfl (by kernel_rfl) rfl rfl rfl (by first | (simp; done) | (simp [Value.cells]; done)) ?_) | (refine xk_store 8 rfl (by kernel_rfl) rfl rfl rfl (by first | (simp; done) | (simp [Value.cells]; done)) ?_)); dsimp only [List.set]
          refine XC.endW ?_
          (repeat (first | refine XC.thenN ?_ | refine XC.thenE ?_ | refine XC.thenR ?_ | refine XC.inN ?_ | refine XC.inE ?_ | refine XC.inR ?_ | refine XC.inF rfl ?_))
          refine XC.ret ?_
          (repeat (first | refine XC.thenN ?_ | refine XC.thenE ?_ | refine XC.thenR ?_ | refine XC.inN ?_ | refine XC.inE ?_ | refine XC.inR ?_ | refine XC.inF rfl ?_))
          refine XK.fact 4 rfl fun hfk => ?_
          have hof : ordF s.devs evs = (i : Int) := ordF_some hik hfk (by rw [badAt, hxk]; exact decide_eq_true ⟨hk98, hbad⟩)
          rw [← hof]
          refine XK.weak [2, 3, 5] rfl (by decide) (fun _ hp => hp) ?_
          exact XC.bodyR
        ·
          refine XC.skip ?_
          (repeat (first | refine XC.thenN ?_ | refine XC.thenE ?_ | refine XC.thenR ?_ | refine XC.inN ?_ | refine XC.inE ?_ | refine XC.inR ?_ | refine XC.inF rfl ?_))
          have hnx : oSt s.devs (selE evs) (k + 1) = oStep s.devs (oSt s.devs (selE evs) k) x := oSt_next hxk
          have hb : badAt s.devs (selE evs) k = false := by rw [badAt, hxk]; exact decide_eq_false fun h => hbad h.2
          refine XK.fact 4 rfl fun hfk => ?_
          refine XK.setFact 4 (q := ∀ j, j < k + 1 → badAt s.devs (selE evs) j = false) rfl (fun j hj => by
            rcases Nat.lt_or_ge j k with h1 | h1
            · exact hfk j h1
            · obtain rfl : j = k := by omega
              exact hb) ?_
          dsimp only [List.set]
          rw [hnx, oStep]
          rw [if_neg hk98]
          exact XC.bodyN
    rotate_left
    ·
      intro D k hk
      dsimp only [List.cons_append, List.nil_append]
      refine XC.ret ?_
      (repeat (first | refine XC.thenN ?_ | refine XC.thenE ?_ | refine XC.thenR ?_ | refine XC.inN ?_ | refine XC.inE ?_ | refine XC.inR ?_ | refine XC.inF rfl ?_))
      exact XC.retC2 (Hs := [HP.blk g3 33 [.int .i64 0], HP.blk g2 3 [.int .i64 (ordF s.devs evs)]]) rfl (by kernel_rfl) (by kernel_rfl) rfl rfl (Rd.blk 1 rfl rfl) (Rd.blk 0 rfl rfl) fun w1 st => ⟨rfl, st.below (by simp)⟩
    intro D
    dsimp only [List.cons_append, List.nil_append]
    (repeat (first | refine XC.thenN ?_ | refine XC.thenE ?_ | refine XC.thenR ?_ | refine XC.inN ?_ | refine XC.inE ?_ | refine XC.inR ?_ | refine XC.inF rfl ?_))
    refine XK.fact 4 rfl fun hfk => ?_
    have hof : ordF s.devs evs = -1 := ordF_none fun j hj => hfk j (by simpa [idEncs] using hj)
    rw [hof]
    refine XC.seq ?_

    refine XC.regionW (by kernel_rfl) ?_
    (first | (refine xk_store 0 rfl (by kernel_rfl) rfl rfl rfl (by first | (simp; done) | (simp [Value.cells]; done)) ?_) | (refine xk_store 1 rfl (by kernel_rfl) rfl rfl rfl (by first | (simp; done) | (simp [Value.cells]; done)) ?_) | (refine xk_store 2 rfl (by kernel_rfl) rfl rfl rfl (by first | (simp; done) | (simp [Value.cells]; done)) ?_) | (refine xk_store 3 rfl (by kernel_rfl) rfl rfl rfl (by first | (simp; done) | (simp [Value.cells]; done)) ?_) | (refine xk_store 4 rfl (by kernel_rfl) rfl rfl rfl (by first | (simp; done) | (simp [Value.cells]; done)) ?_) | (refine xk_store 5 rfl (by kernel_rfl) rfl rfl rfl (by first | (simp; done) | (simp [Value.cells]; done)) ?_) | (refine xk_store 6 rfl (by kernel_rfl) rfl rfl rfl (by first | (simp; done) | (simp [Value.cells]; done)) ?_) | (refine xk_store 7 rfl (by kernel_rfl) rfl rfl rfl (by first | (simp; done) | (simp [Value.cells]; done)) ?_) | (refine xk_store 8 rfl (by kernel_rfl) rfl rfl rfl (by first | (simp; done) | (simp [Value.cells]; done)) ?_)); dsimp only [List.set]
    (first | (refine xk_store 0 rfl (by kernel_rfl) rfl rfl rfl (by first | (simp; done) | (simp [Value.cells]; done)) ?_) | (refine xk_store 1 rfl (by kernel_rfl) rfl rfl rfl (by first | (simp; done) | (simp [Value.cells]; done)) ?_) | (refine xk_store 2 rfl (by kernel_rfl) rfl rfl rfl (by first | (simp; done) | (simp [Value.cells]; done)) ?_) | (refine xk_store 3 rfl (by kernel_rfl) rfl rfl rfl (by first | (simp; done) | (simp [Value.cells]; done)) ?_) | (refine xk_store 4 rfl (by kernel_rfl) rfl rfl rfl (by first | (simp; done) | (simp [Value.cells]; done)) ?_) | (refine xk_store 5 rfl (by kernel_rfl) rfl rfl rfl (by first | (simp; done) | (simp [Value.cells]; done)) ?_) | (refine xk_store 6 rfl (by kernel_rfl) rfl rfl rfl (by first | (simp; done) | (simp [Value.cells]; done)) ?_) | (refine xk_store 7 rfl (by kernel_rfl) rfl rfl rfl (by first | (simp; done) | (simp [Value.cells]; done)) ?_) | (refine xk_store 8 rfl (by kernel_rfl) rfl rfl rfl (by first | (simp; done) | (simp [Value.cells]; done)) ?_)); dsimp only [List.set]
    refine XC.endW ?_
    (repeat (first | refine XC.thenN ?_ | refine XC.thenE ?_ | refine XC.thenR ?_ | refine XC.inN ?_ | refine XC.inE ?_ | refine XC.inR ?_ | refine XC.inF rfl ?_))
    refine XC.ret ?_
    (repeat (first | refine XC.thenN ?_ | refine XC.thenE ?_ | refine XC.thenR ?_ | refine XC.inN ?_ | refine XC.inE ?_ | refine XC.inR ?_ | refine XC.inF rfl ?_))
    exact XC.retC2 (Hs := [CrsH g4 gc gm (.slice A4 n4 k4) (.slice An n4 kn) ((oSt s.devs (selE evs) (idEncs b off (selIds evs)).length).x), HP.blk g5 125 (iCells (oSt s.devs (selE evs) (idEncs b off (selIds evs)).length).last), HP.blk g3 33 [.int .i64 0], HP.blk g2 3 [.int .i64 (-1)], HP.pure (∀ j, j < (idEncs b off (selIds evs)).length → badAt s.devs (selE evs) j = false)]) rfl (by kernel_rfl) (by kernel_rfl) rfl rfl (Rd.blk 3 rfl rfl) (Rd.blk 2 rfl rfl) fun w1 st => ⟨rfl, st.below (by simp)⟩

end Go.Proofs.Ytbgibbbggajgaaa
