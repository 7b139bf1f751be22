/- plan: what makes iterators; the iterator of steps. -/
import Derived.Test.YtbgibbbggajgaaaPlan1
import Derived.Test.YtbgibbbggajgaaaDrawIn
namespace Go.Proofs.Ytbgibbbggajgaaa
set_option linter.all false
open Go.RowKit
attribute [local irreducible] KC KI KQ
def StepV (pr msg i v : Int) : Value := .agg #[.int .i64 pr, .int .i64 msg, .int .u32 i, .int .u32 v]
def stepCells (pr msg : Int) (val : Nat → Int) (ids : List Nat) : List (List Value) := ids.map fun (i : Nat) => [StepV pr msg i (val i)]
/-- what a value function tells of each of them -/
def ValOk (p : Piece) (vid : FuncId) (vcap : List Value) (ids : List Nat) (val : Nat → Int) : Prop := ∀ i ∈ ids, ∀ w', p.Le (all w') → Calls Try.prog vid (Value.int .i64 (i : Int) :: vcap).toArray w' (Rt (.int .u32 (val i)) w')
theorem Piece.Le.trans' {p q r : Piece} (h : p.Le q) (k : q.Le r) : p.Le r := fun b hb => ⟨(k b (h b hb).1).1, (k b (h b hb).1).2.trans (h b hb).2⟩
theorem ValOk.le {p q : Piece} {vid : FuncId} {vcap : List Value} {ids : List Nat} {val : Nat → Int} (h : ValOk p vid vcap ids val) (hl : p.Le q) : ValOk q vid vcap ids val := fun i hi w' hq => h i hi w' (hl.trans' hq)
theorem RP.of_blk {q : Piece} {g o : Nat} {t : TypeId} {cs : List Value} {v : Value} (h : ∃ F, (HP.blk g t cs).sat F q.w ∧ ∀ b, F b → q.Z b) (hv : cs[o]? = some v) : RP q g o v := by
  obtain ⟨F, hs, hz⟩ := h
  refine ⟨hz g hs.1, ?_⟩
  have : Blk q.w g t cs.toArray := hs.2
  rw [this.cell]
  simpa using hv

theorem always1_any (i v : Int) (g : Nat) (w : World) (h : ROc w g 0 (.int .u32 v)) : Calls Try.prog 132 #[.int .i64 i, .pointer (some ⟨g, 0, none⟩)] w (Rt (.int .u32 v) w) := by
  refine XK.enter (vs := [.int .i64 i, .pointer (some ⟨g, 0, none⟩)]) Try.func132 rfl Try.ntmps132 (by simp) ?_
  refine XK.seq ?_

  refine XK.region ?_
  refine xk_assign rfl (by decide) ?_
  refine XK.nil ?_
  (repeat (first | refine XK.thenN ?_ | refine XK.thenE ?_ | refine XK.thenR ?_ | refine XK.inN ?_ | refine XK.inE ?_ | refine XK.inR ?_ | refine XK.inF rfl ?_))
  refine XK.seq ?_

  refine XK.region ?_
  refine xk_load (by kernel_rfl) rfl (by first | assumption | exact Rd.blk 0 rfl rfl | exact Rd.blk 1 rfl rfl | exact Rd.blk 2 rfl rfl | exact Rd.blk 3 rfl rfl | exact Rd.blk 4 rfl rfl | exact Rd.blk 5 rfl rfl | exact Rd.blk 6 rfl rfl | exact Rd.blk 7 rfl rfl | exact Rd.blk 8 rfl rfl | exact Rd.roc (by simp) (by assumption) | (apply Rd.rocN (by simp); assumption; rfl)) (by decide) ?_
  refine xk_assign rfl (by decide) ?_
  refine XK.nil ?_
  (repeat (first | refine XK.thenN ?_ | refine XK.thenE ?_ | refine XK.thenR ?_ | refine XK.inN ?_ | refine XK.inE ?_ | refine XK.inR ?_ | refine XK.inF rfl ?_))
  refine XK.ret ?_
  (repeat (first | refine XK.thenN ?_ | refine XK.thenE ?_ | refine XK.thenR ?_ | refine XK.inN ?_ | refine XK.inE ?_ | refine XK.inR ?_ | refine XK.inF rfl ?_))
  exact XK.ret1 rfl rfl fun w1 st => ⟨rfl, st.below (by simp)⟩

/-- v, whatever is asked -/
def AlwaysOk (v : Int) (y : Value) (w w' : World) : Prop := ∃ g, y = .func (.func 132) #[] #[.pointer (some ⟨g, 0, none⟩)] ∧ ∀ q, (fresh w w').Le q → ∀ ids, ValOk q 132 [.pointer (some ⟨g, 0, none⟩)] ids fun _ => v
theorem always_any (v : Int) (w : World) : Calls Try.prog 97 #[.int .u32 v] w (fun y w' => (∃ x, y = .returned x ∧ AlwaysOk v x w w') ∧ Below w.heap.size w w') := by
  refine XK.enter (vs := [.int .u32 v]) Try.func97 rfl Try.ntmps97 (by simp) ?_
  refine XK.seq ?_

  refine XK.region ?_
  refine xk_box rfl (by decide) fun g1 => ?_
  refine xk_assign rfl (by decide) ?_
  refine XK.nil ?_
  (repeat (first | refine XK.thenN ?_ | refine XK.thenE ?_ | refine XK.thenR ?_ | refine XK.inN ?_ | refine XK.inE ?_ | refine XK.inR ?_ | refine XK.inF rfl ?_))
  refine XK.seq ?_

  refine XK.region ?_
  refine xk_func (vf := []) (vc := [.pointer (some ⟨g1, 0, none⟩)]) rfl rfl (by decide) ?_
  refine xk_assign rfl (by decide) ?_
  refine XK.nil ?_
  (repeat (first | refine XK.thenN ?_ | refine XK.thenE ?_ | refine XK.thenR ?_ | refine XK.inN ?_ | refine XK.inE ?_ | refine XK.inR ?_ | refine XK.inF rfl ?_))
  refine XK.ret ?_
  (repeat (first | refine XK.thenN ?_ | refine XK.thenE ?_ | refine XK.thenR ?_ | refine XK.inN ?_ | refine XK.inE ?_ | refine XK.inR ?_ | refine XK.inF rfl ?_))
  refine XK.still [] [0] [] (by simp) rfl (by decide) (by decide) fun q hq _ hfr => ?_
  refine XK.ret1 rfl rfl fun w1 st => ⟨⟨_, rfl, g1, rfl, fun q2 hf ids i hi => ?_⟩, st.below (by simp)⟩
  have hrp := (RP.of_blk (o := 0) (v := .int .u32 v) (hq 0 _ (by simp) rfl) rfl).le ((st.fresh_le (by simp) (hfr (by simp) (by simp))).trans' hf)
  intro w' hw'
  have := hrp.le hw'
  exact always1_any _ v g1 w' this

def MoreOk (p0 : Piece) (ids : List Nat) (y : Value) (w w' : World) : Prop := ∃ g1 g2 g3, y = .func (.func 131) #[] #[.pointer (some ⟨g1, 0, none⟩), .pointer (some ⟨g2, 0, none⟩), .pointer (some ⟨g3, 0, none⟩)] ∧ ∀ q, p0.Le q → (fresh w w').Le q → Iter Try.prog 131 [.pointer (some ⟨g1, 0, none⟩), .pointer (some ⟨g2, 0, none⟩), .pointer (some ⟨g3, 0, none⟩)] (idCells ids) q
theorem more_any (p0 : Piece) (n nt' nf c ct cf : Nat) (A At Af : Option Addr) (order : List Nat) (fr to : List Bool) (w : World)
    (hs : SlS p0 1 A n (intCells (natI order))) (hn : n = order.length) (hn2 : (n : Int) ≤ 9223372036854775806) (hst : SlS p0 1 At nt' (boolCells to)) (hnt : nt' = to.length) (hsf : SlS p0 1 Af nf (boolCells fr)) (hnf : nf = fr.length) (hord : ∀ i ∈ order, (i : Int) ≤ 9223372036854775807) :
    Calls Try.prog 96 #[.slice A n c, .slice Af nf cf, .slice At nt' ct] w (fun y w' => (∃ x, y = .returned x ∧ MoreOk p0 (moreL order fr to) x w w') ∧ Below w.heap.size w w') := by
  refine XK.enter (vs := [.slice A n c, .slice Af nf cf, .slice At nt' ct]) Try.func96 rfl Try.ntmps96 (by simp) ?_
  refine XK.seq ?_

  refine XK.region ?_
  refine xk_box rfl (by decide) fun g1 => ?_
  refine xk_box rfl (by decide) fun g2 => ?_
  refine xk_box rfl (by decide) fun g3 => ?_
  refine xk_assign rfl (by decide) ?_
  refine XK.nil ?_
  (repeat (first | refine XK.thenN ?_ | refine XK.thenE ?_ | refine XK.thenR ?_ | refine XK.inN ?_ | refine XK.inE ?_ | refine XK.inR ?_ | refine XK.inF rfl ?_))
  refine XK.seq ?_

  refine XK.region ?_
  refine xk_func (vf := []) (vc := [.pointer (some ⟨g1, 0, none⟩), .pointer (some ⟨g3, 0, none⟩), .pointer (some ⟨g2, 0, none⟩)]) rfl rfl (by decide) ?_
  refine xk_assign rfl (by decide) ?_
  refine XK.nil ?_
  (repeat (first | refine XK.thenN ?_ | refine XK.thenE ?_ | refine XK.thenR ?_ | refine XK.inN ?_ | refine XK.inE ?_ | refine XK.inR ?_ | refine XK.inF rfl ?_))
  refine XK.ret ?_
  (repeat (first | refine XK.thenN ?_ | refine XK.thenE ?_ | refine XK.thenR ?_ | refine XK.inN ?_ | refine XK.inE ?_ | refine XK.inR ?_ | refine XK.inF rfl ?_))
  refine XK.still [] [0, 1, 2] [] (by simp) rfl (by decide) (by decide) fun q hq _ hfr => ?_
  refine XK.ret1 rfl rfl fun w1 st => ⟨⟨_, rfl, g1, g3, g2, rfl, fun q2 hp0 hf => ?_⟩, st.below (by simp)⟩
  have hle := (st.fresh_le (by simp) (hfr (by simp) (by simp))).trans' hf
  exact more1_iter q2 g1 g3 g2 n nt' nf c ct cf A At Af order fr to ((RP.of_blk (hq 2 _ (by simp) rfl) rfl).le hle) ((RP.of_blk (hq 0 _ (by simp) rfl) rfl).le hle) ((RP.of_blk (hq 1 _ (by simp) rfl) rfl).le hle) (hs.le hp0) hn hn2 (hst.le hp0) hnt (hsf.le hp0) hnf hord

theorem steps1_iter (p : Piece) (g1 g2 g3 g4 : Nat) (gf vid : FuncId) (lb vcap : List Value) (pr msg : Int) (val : Nat → Int) (ids : List Nat) (h1 : RP p g1 0 (.func (.func gf) #[] lb.toArray)) (h2 : RP p g2 0 (.int .i64 pr)) (h3 : RP p g3 0 (.int .i64 msg)) (h4 : RP p g4 0 (.func (.func vid) #[] vcap.toArray))
    (hit : Iter Try.prog gf lb (idCells ids) p) (hgc : callB Try.prog gf = true) (hvc : callB Try.prog vid = true) (hval : ValOk p vid vcap ids val) (hids : ∀ i ∈ ids, i < 4294967296) :
    Iter Try.prog 130 [.pointer (some ⟨g1, 0, none⟩), .pointer (some ⟨g2, 0, none⟩), .pointer (some ⟨g3, 0, none⟩), .pointer (some ⟨g4, 0, none⟩)] (stepCells pr msg val ids) p := by
  unfold Iter
  intro l J Jx W F hp hd hJ hF hY
  refine XC.enter (vs := [.func (.yield l) #[] #[], .pointer (some ⟨g1, 0, none⟩), .pointer (some ⟨g2, 0, none⟩), .pointer (some ⟨g3, 0, none⟩), .pointer (some ⟨g4, 0, none⟩)]) Try.func130 rfl Try.ntmps130 (by simp) (St.iter hp hd hJ hF) ?_
  dsimp only [List.cons_append, List.nil_append]
  refine XC.seq ?_
  refine XC.regionW (by kernel_rfl) ?_
  refine xk_box rfl (by decide) fun g5 => ?_
  refine XC.endW ?_
  (repeat (first | refine XC.thenN ?_ | refine XC.thenE ?_ | refine XC.thenR ?_ | refine XC.inN ?_ | refine XC.inE ?_ | refine XC.inR ?_ | refine XC.inF rfl ?_))
  refine XC.seq ?_
  refine XC.regionW (by kernel_rfl) ?_
  refine xk_load (by kernel_rfl) rfl (h1.rd (by simp)) (by decide) ?_
  refine XC.endW ?_
  (repeat (first | refine XC.thenN ?_ | refine XC.thenE ?_ | refine XC.thenR ?_ | refine XC.inN ?_ | refine XC.inE ?_ | refine XC.inR ?_ | refine XC.inF rfl ?_))
  refine XK.env [(7, .func (.func gf) #[] lb.toArray), (5, .pointer (some ⟨g5, 0, none⟩)), (4, .pointer (some ⟨g4, 0, none⟩)), (3, .pointer (some ⟨g3, 0, none⟩)), (2, .pointer (some ⟨g2, 0, none⟩))] ⟨rfl, rfl, rfl, rfl, rfl, trivial⟩ ?_
  refine XC.block ?_
  refine XC.range (gf := gf) (lb := lb) (encs := idCells ids) (p := p) rfl hgc hit (by simp) (fun vs hvs => ?_) (by decide) (fun k => [HP.blk g5 167 [.func (.yield l) #[] #[]], J k]) (fun k => [HP.blk g5 167 [.func (.yield l) #[] #[]], Jx k])
    (fun k vs e1 H1 => e1 = [(6, vs.headD (.tuple #[])), (5, .pointer (some ⟨g5, 0, none⟩)), (4, .pointer (some ⟨g4, 0, none⟩)), (3, .pointer (some ⟨g3, 0, none⟩)), (2, .pointer (some ⟨g2, 0, none⟩))] ∧ H1 = [HP.blk g5 167 [.func (.yield l) #[] #[]], J k]) rfl ?_ ?_ ?_ ?_
  · simp only [idCells, List.mem_map] at hvs
    obtain ⟨i, _, rfl⟩ := hvs
    rfl
  ·
    intro l2 k vs W1 q X hvs hsm
    obtain ⟨i, hi, rfl⟩ : ∃ i, ids[k]? = some i ∧ vs = [.int .i64 (i : Int)] := by
      simp only [idCells, List.getElem?_map, Option.map_eq_some_iff] at hvs
      obtain ⟨i, h, e⟩ := hvs
      exact ⟨i, h, e.symm⟩
    refine XC.regionW (by kernel_rfl) ?_
    refine xk_assign rfl (by decide) ?_
    refine XC.endW ?_
    refine XK.env [(6, .int .i64 (i : Int)), (5, .pointer (some ⟨g5, 0, none⟩)), (4, .pointer (some ⟨g4, 0, none⟩)), (3, .pointer (some ⟨g3, 0, none⟩)), (2, .pointer (some ⟨g2, 0, none⟩))] ⟨rfl, rfl, rfl, rfl, rfl, trivial⟩ ?_
    exact XC.assigned ⟨rfl, rfl⟩
  ·
    rintro l2 k vs W1 q X _ _ hvs hsm ⟨rfl, rfl⟩
    obtain ⟨i, hik, rfl⟩ : ∃ i, ids[k]? = some i ∧ vs = [.int .i64 (i : Int)] := by
      simp only [idCells, List.getElem?_map, Option.map_eq_some_iff] at hvs
      obtain ⟨i, h, e⟩ := hvs
      exact ⟨i, h, e.symm⟩
    have hi := List.mem_of_getElem? hik
    have hib := hids i hi
    dsimp only [List.cons_append, List.nil_append, List.headD_cons]
    refine XC.block ?_
    refine XC.seq ?_
    refine XC.draw 9 (by kernel_rfl) (by kernel_rfl) ?_
    simp only [List.take_succ_cons, List.take_zero, List.drop_succ_cons, List.drop_zero]
    refine XA.do_ 0 rfl rfl rfl (by decide) (does_load (by kernel_rfl) rfl (Rd.blk 0 rfl rfl)) (by kernel_rfl) (fun _ _ _ h => h) (by first | exact fun _ h => h | exact fun _ h => h.tail | exact fun _ h => h.tailR | exact fun _ h => h.tail.tail | exact fun _ h => h.tailR.tail | exact fun _ h => h.tailR.tailR) ?_
    refine XA.do_ 1 rfl rfl rfl (by decide) (does_load (by kernel_rfl) rfl (h2.rd (by simp))) (by kernel_rfl) (fun _ _ _ h => h) (by first | exact fun _ h => h | exact fun _ h => h.tail | exact fun _ h => h.tailR | exact fun _ h => h.tail.tail | exact fun _ h => h.tailR.tail | exact fun _ h => h.tailR.tailR) ?_
    refine XA.do_ 2 rfl rfl rfl (by decide) (does_load (by kernel_rfl) rfl (h3.rd (by simp))) (by kernel_rfl) (fun _ _ _ h => h) (by first | exact fun _ h => h | exact fun _ h => h.tail | exact fun _ h => h.tailR | exact fun _ h => h.tail.tail | exact fun _ h => h.tailR.tail | exact fun _ h => h.tailR.tailR) ?_
    refine XA.do_ 3 rfl rfl rfl (by decide) (does_move rfl) (by kernel_rfl) (fun _ _ _ h => h) (by first | exact fun _ h => h | exact fun _ h => h.tail | exact fun _ h => h.tailR | exact fun _ h => h.tail.tail | exact fun _ h => h.tailR.tail | exact fun _ h => h.tailR.tailR) ?_
    refine XA.do_ 4 rfl rfl rfl (by decide) (does_conv (ds := .int .i64) (by kernel_rfl) (by kernel_rfl) rfl (wrap_u32 (by omega))) (by kernel_rfl) (fun _ _ _ h => h) (by first | exact fun _ h => h | exact fun _ h => h.tail | exact fun _ h => h.tailR | exact fun _ h => h.tail.tail | exact fun _ h => h.tailR.tail | exact fun _ h => h.tailR.tailR) ?_
    refine XA.do_ 5 rfl rfl rfl (by decide) (does_load (by kernel_rfl) rfl (h4.rd (by simp))) (by kernel_rfl) (fun _ _ _ h => h) (by first | exact fun _ h => h | exact fun _ h => h.tail | exact fun _ h => h.tailR | exact fun _ h => h.tail.tail | exact fun _ h => h.tailR.tail | exact fun _ h => h.tailR.tailR) ?_
    refine XA.do_ 6 rfl rfl rfl (by decide) (does_move rfl) (by kernel_rfl) (fun _ _ _ h => h) (by first | exact fun _ h => h | exact fun _ h => h.tail | exact fun _ h => h.tailR | exact fun _ h => h.tail.tail | exact fun _ h => h.tailR.tail | exact fun _ h => h.tailR.tailR) ?_
    refine XA.next 7 rfl (by kernel_rfl) ?_
    refine xk_callR (f := vid) (fi := []) (ca := vcap) hvc rfl rfl (by decide) (fun w1 st => hval i hi w1 (st.le (by simp))) ?_
    refine XK.nil ?_; refine XK.thenN ?_; refine XA.back (by first | exact fun _ h => h | exact fun _ h => h.tail | exact fun _ h => h.tailR | exact fun _ h => h.tail.tail | exact fun _ h => h.tailR.tail | exact fun _ h => h.tailR.tailR) ?_
    refine XA.do_ 8 rfl rfl rfl (by decide) (does_buildS (zs := [.int .i64 0, .int .i64 0, .int .u32 0, .int .u32 0]) (L := [(0, 1), (1, 1), (2, 1), (3, 1)]) (zeroB_of (by kernel_rfl)) (by kernel_rfl) rfl (by simp [fillL, setN, Value.cells]; rfl)) (by kernel_rfl) (fun _ _ _ h => h) (by first | exact fun _ h => h | exact fun _ h => h.tail | exact fun _ h => h.tailR | exact fun _ h => h.tail.tail | exact fun _ h => h.tailR.tail | exact fun _ h => h.tailR.tailR) ?_
    refine XA.done (by kernel_rfl) ?_
    refine XI.start ?_
    refine XI.yield 1 rfl rfl (by decide) (by simp : nt W F ∈ [p, nt W F, q]) hsm rfl (fun W2 F2 h1 h2 h3 => hY k _ W2 F2 (by simp [stepCells, hik]; rfl) h1 h2 h3) ?_ ?_
    · dsimp only [List.set]
      refine XI.op (by kernel_rfl) ?_; refine xk_not rfl (by decide) ?_; refine XI.back ?_
      refine XI.nil ?_
      (repeat (first | refine XC.thenN ?_ | refine XC.thenE ?_ | refine XC.thenR ?_ | refine XC.inN ?_ | refine XC.inE ?_ | refine XC.inR ?_ | refine XC.inF rfl ?_))
      refine XC.cond rfl (fun h => by cases h) (fun _ => ?_)
      refine XC.skip ?_
      (repeat (first | refine XC.thenN ?_ | refine XC.thenE ?_ | refine XC.thenR ?_ | refine XC.inN ?_ | refine XC.inE ?_ | refine XC.inR ?_ | refine XC.inF rfl ?_))
      exact XC.bodyN
    · dsimp only [List.set]
      refine XI.op (by kernel_rfl) ?_; refine xk_not rfl (by decide) ?_; refine XI.back ?_
      refine XI.nil ?_
      (repeat (first | refine XC.thenN ?_ | refine XC.thenE ?_ | refine XC.thenR ?_ | refine XC.inN ?_ | refine XC.inE ?_ | refine XC.inR ?_ | refine XC.inF rfl ?_))
      refine XC.cond rfl (fun _ => ?_) (fun h => by cases h)
      refine XC.ret ?_
      (repeat (first | refine XC.thenN ?_ | refine XC.thenE ?_ | refine XC.thenR ?_ | refine XC.inN ?_ | refine XC.inE ?_ | refine XC.inR ?_ | refine XC.inF rfl ?_))
      exact XC.bodyR
  ·
    intro D
    dsimp only [List.cons_append, List.nil_append]
    (repeat (first | refine XC.thenN ?_ | refine XC.thenE ?_ | refine XC.thenR ?_ | refine XC.inN ?_ | refine XC.inE ?_ | refine XC.inR ?_ | refine XC.inF rfl ?_))
    refine XC.ret0 (Hs := [HP.blk g5 167 [.func (.yield l) #[] #[]], J (idCells ids).length]) (.inr rfl) rfl fun w1 st => ?_
    obtain ⟨F', h1, h2⟩ := st.turns hF (by simp [nt]) (i := 1) rfl
    exact ⟨⟨_, rfl⟩, F', h2, .inl (by simpa [idCells, stepCells] using h1)⟩
  · intro D k hk
    dsimp only [List.cons_append, List.nil_append]
    refine XC.ret ?_
    (repeat (first | refine XC.thenN ?_ | refine XC.thenE ?_ | refine XC.thenR ?_ | refine XC.inN ?_ | refine XC.inE ?_ | refine XC.inR ?_ | refine XC.inF rfl ?_))
    refine XC.ret0 (Hs := [HP.blk g5 167 [.func (.yield l) #[] #[]], Jx (k + 1)]) (.inl rfl) rfl fun w1 st => ?_
    obtain ⟨F', h1, h2⟩ := st.turns hF (by simp [nt]) (i := 1) rfl
    exact ⟨⟨_, rfl⟩, F', h2, .inr ⟨k, by simpa [idCells, stepCells] using hk, h1⟩⟩

def StepsOk (p0 : Piece) (encs : List (List Value)) (y : Value) (w w' : World) : Prop := ∃ g1 g2 g3 g4, y = .func (.func 130) #[] #[.pointer (some ⟨g1, 0, none⟩), .pointer (some ⟨g2, 0, none⟩), .pointer (some ⟨g3, 0, none⟩), .pointer (some ⟨g4, 0, none⟩)] ∧ ∀ q, p0.Le q → (fresh w w').Le q → Iter Try.prog 130 [.pointer (some ⟨g1, 0, none⟩), .pointer (some ⟨g2, 0, none⟩), .pointer (some ⟨g3, 0, none⟩), .pointer (some ⟨g4, 0, none⟩)] encs q
theorem steps_any (p0 : Piece) (gf vid : FuncId) (lb vcap : List Value) (pr msg : Int) (val : Nat → Int) (ids : List Nat) (w : World) (hit : Iter Try.prog gf lb (idCells ids) p0) (hgc : callB Try.prog gf = true) (hvc : callB Try.prog vid = true) (hval : ValOk p0 vid vcap ids val) (hids : ∀ i ∈ ids, i < 4294967296) :
    Calls Try.prog 95 #[.func (.func gf) #[] lb.toArray, .int .i64 pr, .int .i64 msg, .func (.func vid) #[] vcap.toArray] w (fun y w' => (∃ x, y = .returned x ∧ StepsOk p0 (stepCells pr msg val ids) x w w') ∧ Below w.heap.size w w') := by
  refine XK.enter (vs := [.func (.func gf) #[] lb.toArray, .int .i64 pr, .int .i64 msg, .func (.func vid) #[] vcap.toArray]) Try.func95 rfl Try.ntmps95 (by simp) ?_
  refine XK.seq ?_

  refine XK.region ?_
  refine xk_box rfl (by decide) fun g1 => ?_
  refine xk_box rfl (by decide) fun g2 => ?_
  refine xk_box rfl (by decide) fun g3 => ?_
  refine xk_box rfl (by decide) fun g4 => ?_
  refine xk_assign rfl (by decide) ?_
  refine XK.nil ?_
  (repeat (first | refine XK.thenN ?_ | refine XK.thenE ?_ | refine XK.thenR ?_ | refine XK.inN ?_ | refine XK.inE ?_ | refine XK.inR ?_ | refine XK.inF rfl ?_))
  refine XK.seq ?_

  refine XK.region ?_
  refine xk_func (vf := []) (vc := [.pointer (some ⟨g1, 0, none⟩), .pointer (some ⟨g2, 0, none⟩), .pointer (some ⟨g3, 0, none⟩), .pointer (some ⟨g4, 0, none⟩)]) rfl rfl (by decide) ?_
  refine xk_assign rfl (by decide) ?_
  refine XK.nil ?_
  (repeat (first | refine XK.thenN ?_ | refine XK.thenE ?_ | refine XK.thenR ?_ | refine XK.inN ?_ | refine XK.inE ?_ | refine XK.inR ?_ | refine XK.inF rfl ?_))
  refine XK.ret ?_
  (repeat (first | refine XK.thenN ?_ | refine XK.thenE ?_ | refine XK.thenR ?_ | refine XK.inN ?_ | refine XK.inE ?_ | refine XK.inR ?_ | refine XK.inF rfl ?_))
  refine XK.still [] [0, 1, 2, 3] [] (by simp) rfl (by decide) (by decide) fun q hq _ hfr => ?_
  refine XK.ret1 rfl rfl fun w1 st => ⟨⟨_, rfl, g1, g2, g3, g4, rfl, fun q2 hp0 hf => ?_⟩, st.below (by simp)⟩
  have hle := (st.fresh_le (by simp) (hfr (by simp) (by simp))).trans' hf
  exact steps1_iter q2 g1 g2 g3 g4 gf vid lb vcap pr msg val ids ((RP.of_blk (hq 3 _ (by simp) rfl) rfl).le hle) ((RP.of_blk (hq 2 _ (by simp) rfl) rfl).le hle) ((RP.of_blk (hq 1 _ (by simp) rfl) rfl).le hle) ((RP.of_blk (hq 0 _ (by simp) rfl) rfl).le hle) (hit.le hp0) hgc hvc (hval.le hp0) hids

end Go.Proofs.Ytbgibbbggajgaaa
