/- AuditKinds: events of no kind change nothing but places. -/
import Derived.Test.YtbgibbbggajgaaaLaw20
import Derived.Test.YtbgibbbggajgaaaOpen2
import Derived.Test.YtbgibbbggajgaaaEq
namespace Go.Proofs.Ytbgibbbggajgaaa
set_option linter.all false
open Go.RowKit
theorem ordF_bd (devs : List Dev) (evs : List Ev) : -1 ≤ ordF devs evs ∧ ordF devs evs < evs.length := by
  unfold ordF
  cases hb : ordK devs (selE evs) with
  | none => simp only; omega
  | some k =>
    obtain ⟨h1, _, _⟩ := firstB_at (show firstB _ (selE evs).length = some k from hb)
    rw [selE_len] at h1
    obtain ⟨i, hi⟩ : ∃ i, (selIds evs)[k]? = some i := ⟨_, List.getElem?_eq_getElem h1⟩
    have := selIds_lt hi
    simp only [hi, Option.getD_some]
    omega
theorem repF_bd (evs : List Ev) : -1 ≤ repliesF evs ∧ repliesF evs ≤ evs.length := by
  have := repG_bd (st := (false, 0)) (l := evs) (k := 0)
  unfold repliesF
  omega
def qEv : Ev := ⟨113, 1, 0, 0, 0, 0, 0, 0, 0, 0, false, 0, false, none, 0, []⟩
def moreE (es : List Ev) (k : Nat) : List Ev := es.take k ++ ([qEv] ++ es.drop k)
theorem moreE_cells (es : List Ev) (k : Nat) : (moreE es k).flatMap Ev.cells = ([] ++ (es.take k).flatMap Ev.cells ++ qEv.cells) ++ (es.drop k).flatMap Ev.cells := by
  simp [moreE]
theorem moreE_len {es : List Ev} {k : Nat} : (moreE es k).length = es.length + 1 := by
  have := congrArg List.length (List.take_append_drop k es)
  rw [List.length_append] at this
  simp only [moreE, List.length_append, List.length_cons, List.length_nil]
  omega
theorem evs_more {w1 : World} {A Am : Option Addr} {es : List Ev} {k : Nat} (hE : Evs w1 w1.heap.size A es) (hM : SlS (all w1) 14 Am (moreE es k).length ((moreE es k).flatMap Ev.cells)) : Evs w1 w1.heap.size Am (moreE es k) := by
  refine ⟨⟨hM.1, fun hn => ?_⟩, fun e he => ?_⟩
  · obtain ⟨b, off, hA, hz, hc⟩ := hM.2 hn
    exact ⟨b, off, hA, hz, hc⟩
  · simp only [moreE, List.mem_append, List.mem_cons, List.not_mem_nil, or_false] at he
    rcases he with he | rfl | he
    · exact hE.2 e (List.mem_of_mem_take he)
    · exact Sl.nil
    · exact hE.2 e (List.mem_of_mem_drop he)
def rpV (r : Rp) : List Value := [.int .i64 r.begun, .int .i64 r.ended, .int .i64 r.errs, .int .i64 r.deliv, .int .i64 r.dead, .int .i64 r.sent, .int .i64 r.repl]
def OpenR (l : List Int) (v : Value) (w w' : World) : Prop := ∃ A c, v = .slice A l.length c ∧ SlS (fresh w w') 1 A l.length (intCells l)
theorem open_r {A : Option Addr} {n c : Nat} {evs : List Ev} {w : World} (h : Evs w w.heap.size A evs) (hn : n = evs.length) (hb : n ≤ 9223372036854775807) : Calls Try.prog 16 #[.slice A n c] w (fun y w' => (∃ v, y = .returned v ∧ OpenR (openF evs) v w w') ∧ Below w.heap.size w w') :=
  (open2_any A n c evs w h hn hb).mono fun x w' h => by
    obtain ⟨⟨A', c', hx, hs⟩, hb⟩ := h
    exact ⟨⟨_, hx, A', c', rfl, hs⟩, hb⟩

theorem same20_any (A B : Option Addr) (n c c' : Nat) (zs : List Int) (w : World) (hA : SlS (all w) 1 A n (intCells zs)) (hB : SlS (all w) 1 B n (intCells zs)) (hn : n = zs.length) (hn2 : (n : Int) ≤ 9223372036854775806) :
    Calls Try.prog 15 #[.slice A n c, .slice B n c'] w (Rt (.bool true) w) := by
  refine XK.enter (vs := [.slice A n c, .slice B n c']) Try.func15 rfl Try.ntmps15 (by simp) ?_
  refine XK.seq ?_

  refine XK.region ?_
  refine xk_assign rfl (by decide) ?_
  refine XK.nil ?_
  (repeat (first | refine XK.thenN ?_ | refine XK.thenE ?_ | refine XK.thenR ?_ | refine XK.inN ?_ | refine XK.inE ?_ | refine XK.inR ?_ | refine XK.inF rfl ?_))
  refine XK.seq ?_
  refine XK.seq ?_

  refine XK.region ?_
  refine xk_move rfl (by decide) ?_
  refine xk_len (el := 3) (by kernel_rfl) rfl (by decide) ?_
  refine xk_move rfl (by decide) ?_
  refine xk_len (el := 3) (by kernel_rfl) rfl (by decide) ?_
  refine xk_neq rfl rfl (by decide) ?_
  refine XK.nil ?_
  (repeat (first | refine XK.thenN ?_ | refine XK.thenE ?_ | refine XK.thenR ?_ | refine XK.inN ?_ | refine XK.inE ?_ | refine XK.inR ?_ | refine XK.inF rfl ?_))
  refine XK.if_ rfl (fun h => ?_) (fun h => ?_)
  ·
    refine XK.seq ?_

    refine XK.region ?_
    refine xk_assign rfl (by decide) ?_
    refine XK.nil ?_
    (repeat (first | refine XK.thenN ?_ | refine XK.thenE ?_ | refine XK.thenR ?_ | refine XK.inN ?_ | refine XK.inE ?_ | refine XK.inR ?_ | refine XK.inF rfl ?_))
    refine XK.ret ?_
    (repeat (first | refine XK.thenN ?_ | refine XK.thenE ?_ | refine XK.thenR ?_ | refine XK.inN ?_ | refine XK.inE ?_ | refine XK.inR ?_ | refine XK.inF rfl ?_))
    exact absurd rfl h
  ·
    refine XK.skip ?_
    (repeat (first | refine XK.thenN ?_ | refine XK.thenE ?_ | refine XK.thenR ?_ | refine XK.inN ?_ | refine XK.inE ?_ | refine XK.inR ?_ | refine XK.inF rfl ?_))
    refine XK.seq ?_
    refine XK.seq ?_

    refine XK.region ?_
    refine xk_assign rfl (by decide) ?_
    refine XK.nil ?_
    (repeat (first | refine XK.thenN ?_ | refine XK.thenE ?_ | refine XK.thenR ?_ | refine XK.inN ?_ | refine XK.inE ?_ | refine XK.inR ?_ | refine XK.inF rfl ?_))
    refine XK.env [(5, .int .i64 0), (1, .slice B n c'), (0, .slice A n c)] ⟨rfl, rfl, rfl, trivial⟩ ?_
    refine XK.block ?_
    refine XK.loop (fun m e R H => ∃ (k : Nat), k ≤ n ∧ m = n - k ∧ e = [(5, .int .i64 k), (1, .slice B n c'), (0, .slice A n c)] ∧ R = [all w] ∧ H = []) n ⟨0, by omega, rfl, rfl, rfl, rfl⟩ fun m e R H hI => ?_
    obtain ⟨k, hk, rfl, rfl, rfl, rfl⟩ := hI
    refine XK.seq ?_
    refine XK.seq ?_

    refine XK.region ?_
    refine xk_move rfl (by decide) ?_
    refine xk_move rfl (by decide) ?_
    refine xk_len (el := 3) (by kernel_rfl) rfl (by decide) ?_
    refine xk_lss rfl rfl (by decide) ?_
    refine XK.nil ?_
    (repeat (first | refine XK.thenN ?_ | refine XK.thenE ?_ | refine XK.thenR ?_ | refine XK.inN ?_ | refine XK.inE ?_ | refine XK.inR ?_ | refine XK.inF rfl ?_))
    refine XK.if_ rfl (fun h => ?_) (fun h => ?_)
    ·
      refine XK.skip ?_
      (repeat (first | refine XK.thenN ?_ | refine XK.thenE ?_ | refine XK.thenR ?_ | refine XK.inN ?_ | refine XK.inE ?_ | refine XK.inR ?_ | refine XK.inF rfl ?_))
      refine XK.seq ?_
      refine XK.block ?_
      refine XK.seq ?_
      have hkn : k < n := by have h' : (k : Int) < (n : Int) := h; omega
      obtain ⟨bA, oA, rfl, zA, cA⟩ := hA.2 (by omega)
      obtain ⟨bB, oB, rfl, zB, cB⟩ := hB.2 (by omega)
      obtain ⟨v, hv⟩ : ∃ v, zs[k]? = some v := ⟨_, List.getElem?_eq_getElem (by omega)⟩
      have hvc : (intCells zs)[k]? = some (.int .i64 v) := by rw [intCells, List.getElem?_map, hv]; rfl

      refine XK.draw 8 (by kernel_rfl) (by kernel_rfl) ?_
      refine XA.do_ 0 rfl rfl rfl (by decide) (does_move rfl) (by kernel_rfl) (fun _ _ _ h => h) (by first | exact fun _ h => h | exact fun _ h => h.tail | exact fun _ h => h.tailR | exact fun _ h => h.tail.tail | exact fun _ h => h.tailR.tail | exact fun _ h => h.tailR.tailR) ?_
      refine XA.do_ 1 rfl rfl rfl (by decide) (does_move rfl) (by kernel_rfl) (fun _ _ _ h => h) (by first | exact fun _ h => h | exact fun _ h => h.tail | exact fun _ h => h.tailR | exact fun _ h => h.tail.tail | exact fun _ h => h.tailR.tail | exact fun _ h => h.tailR.tailR) ?_
      refine XA.do_ 2 rfl rfl rfl (by decide) (does_at (k) (oA + k) (el := 3) (sz := 1) (by kernel_rfl) (by kernel_rfl) rfl rfl (by omega) (by omega) (by omega)) (by kernel_rfl) (fun _ _ _ h => h) (by first | exact fun _ h => h | exact fun _ h => h.tail | exact fun _ h => h.tailR | exact fun _ h => h.tail.tail | exact fun _ h => h.tailR.tail | exact fun _ h => h.tailR.tailR) ?_
      refine XA.do_ 3 rfl rfl rfl (by decide) (does_load (by kernel_rfl) rfl (Rd.ro (p := all w) (by simp) zA (cA k _ hvc))) (by kernel_rfl) (fun _ _ _ h => h) (by first | exact fun _ h => h | exact fun _ h => h.tail | exact fun _ h => h.tailR | exact fun _ h => h.tail.tail | exact fun _ h => h.tailR.tail | exact fun _ h => h.tailR.tailR) ?_
      refine XA.do_ 4 rfl rfl rfl (by decide) (does_move rfl) (by kernel_rfl) (fun _ _ _ h => h) (by first | exact fun _ h => h | exact fun _ h => h.tail | exact fun _ h => h.tailR | exact fun _ h => h.tail.tail | exact fun _ h => h.tailR.tail | exact fun _ h => h.tailR.tailR) ?_
      refine XA.do_ 5 rfl rfl rfl (by decide) (does_move rfl) (by kernel_rfl) (fun _ _ _ h => h) (by first | exact fun _ h => h | exact fun _ h => h.tail | exact fun _ h => h.tailR | exact fun _ h => h.tail.tail | exact fun _ h => h.tailR.tail | exact fun _ h => h.tailR.tailR) ?_
      refine XA.do_ 6 rfl rfl rfl (by decide) (does_at (k) (oB + k) (el := 3) (sz := 1) (by kernel_rfl) (by kernel_rfl) rfl rfl (by omega) (by omega) (by omega)) (by kernel_rfl) (fun _ _ _ h => h) (by first | exact fun _ h => h | exact fun _ h => h.tail | exact fun _ h => h.tailR | exact fun _ h => h.tail.tail | exact fun _ h => h.tailR.tail | exact fun _ h => h.tailR.tailR) ?_
      refine XA.do_ 7 rfl rfl rfl (by decide) (does_load (by kernel_rfl) rfl (Rd.ro (p := all w) (by simp) zB (cB k _ hvc))) (by kernel_rfl) (fun _ _ _ h => h) (by first | exact fun _ h => h | exact fun _ h => h.tail | exact fun _ h => h.tailR | exact fun _ h => h.tail.tail | exact fun _ h => h.tailR.tail | exact fun _ h => h.tailR.tailR) ?_
      refine XA.next 8 rfl (by kernel_rfl) ?_
      refine xk_neq rfl rfl (by decide) ?_
      refine XK.nil ?_; refine XK.thenN ?_; refine XA.backT rfl ?_
      refine XA.done (by kernel_rfl) ?_
      (repeat (first | refine XK.thenN ?_ | refine XK.thenE ?_ | refine XK.thenR ?_ | refine XK.inN ?_ | refine XK.inE ?_ | refine XK.inR ?_ | refine XK.inF rfl ?_))
      refine XK.if_ rfl (fun h => ?_) (fun h => ?_)
      ·
        refine XK.seq ?_

        refine XK.region ?_
        refine xk_assign rfl (by decide) ?_
        refine XK.nil ?_
        (repeat (first | refine XK.thenN ?_ | refine XK.thenE ?_ | refine XK.thenR ?_ | refine XK.inN ?_ | refine XK.inE ?_ | refine XK.inR ?_ | refine XK.inF rfl ?_))
        refine XK.ret ?_
        (repeat (first | refine XK.thenN ?_ | refine XK.thenE ?_ | refine XK.thenR ?_ | refine XK.inN ?_ | refine XK.inE ?_ | refine XK.inR ?_ | refine XK.inF rfl ?_))
        exact absurd rfl h
      ·
        refine XK.skip ?_
        (repeat (first | refine XK.thenN ?_ | refine XK.thenE ?_ | refine XK.thenR ?_ | refine XK.inN ?_ | refine XK.inE ?_ | refine XK.inR ?_ | refine XK.inF rfl ?_))

        refine XK.region ?_
        refine xk_move rfl (by decide) ?_
        refine xk_add rfl rfl (wrap_in (by omega)) (by decide) ?_
        refine xk_assign rfl (by decide) ?_
        refine XK.nil ?_
        (repeat (first | refine XK.thenN ?_ | refine XK.thenE ?_ | refine XK.thenR ?_ | refine XK.inN ?_ | refine XK.inE ?_ | refine XK.inR ?_ | refine XK.inF rfl ?_))
        exact XK.env [(5, .int .i64 ((k : Int) + 1)), (1, .slice (some ⟨bB, oB, none⟩) n c'), (0, .slice (some ⟨bA, oA, none⟩) n c)] ⟨rfl, rfl, rfl, trivial⟩ (XK.round (n - (k + 1)) (by omega) ⟨k + 1, by omega, rfl, rfl, rfl, rfl⟩)
    ·
      refine XK.exit ?_
      (repeat (first | refine XK.thenN ?_ | refine XK.thenE ?_ | refine XK.thenR ?_ | refine XK.inN ?_ | refine XK.inE ?_ | refine XK.inR ?_ | refine XK.inF rfl ?_))
      refine XK.seq ?_

      refine XK.region ?_
      refine xk_assign rfl (by decide) ?_
      refine XK.nil ?_
      (repeat (first | refine XK.thenN ?_ | refine XK.thenE ?_ | refine XK.thenR ?_ | refine XK.inN ?_ | refine XK.inE ?_ | refine XK.inR ?_ | refine XK.inF rfl ?_))
      refine XK.ret ?_
      (repeat (first | refine XK.thenN ?_ | refine XK.thenE ?_ | refine XK.thenR ?_ | refine XK.inN ?_ | refine XK.inE ?_ | refine XK.inR ?_ | refine XK.inF rfl ?_))
      exact XK.ret1 rfl rfl fun w1 st => ⟨rfl, st.below (by simp)⟩

set_option maxHeartbeats 1000000 in
theorem auditKinds_any (A : Option Addr) (n c : Nat) (zs : List Int) (Ae : Option Addr) (ne ce : Nat) (es : List Ev) (at' : Int) (w : World) (h0 : SlS (all w) 1 A n (intCells zs)) (hz : I64s zs) (hn : n = zs.length) (hn2 : n ≤ 9223372036854775807) (hE : Evs w w.heap.size Ae es) (hne : ne = es.length) (hne2 : ne ≤ 9223372036854775807) (hce : ne ≤ ce) (hat : -9223372036854775808 ≤ at' ∧ at' ≤ 9223372036854775807) :
    Calls Try.prog 10 #[.slice A n c, .slice Ae ne ce, .int .i64 at'] w (Rt (.bool true) w) := by
  refine XK.enter (vs := [.slice A n c, .slice Ae ne ce, .int .i64 at']) Try.func10 rfl Try.ntmps10 (by simp) ?_
  refine XK.seq ?_

  refine XK.region ?_
  refine xk_assign rfl (by decide) ?_
  refine XK.nil ?_
  (repeat (first | refine XK.thenN ?_ | refine XK.thenE ?_ | refine XK.thenR ?_ | refine XK.inN ?_ | refine XK.inE ?_ | refine XK.inR ?_ | refine XK.inF rfl ?_))
  refine XK.seq ?_

  refine XK.region ?_
  refine xk_callR (f := 12) (fi := []) (ca := []) (by kernel_rfl) rfl rfl (by decide) (fun w1 st => shown20_any w1) ?_
  refine xk_assign rfl (by decide) ?_
  refine XK.nil ?_
  (repeat (first | refine XK.thenN ?_ | refine XK.thenE ?_ | refine XK.thenR ?_ | refine XK.inN ?_ | refine XK.inE ?_ | refine XK.inR ?_ | refine XK.inF rfl ?_))
  refine XK.seq ?_

  refine XK.region ?_
  refine xk_move rfl (by decide) ?_
  refine xk_call [] (f := 30) (fi := []) (ca := []) (by kernel_rfl) rfl rfl (by decide) (by simp) (fun v w w' => ∃ cs s, v = .agg cs ∧ SocR (slq (fresh w w')) s cs ∧ s.made) (fun w1 st => chip20_any A n c zs w1 (h0.le (st.le (by simp))) hz hn hn2) ?_
  rintro _ w1 q1 ⟨cs, s, rfl, hS, hm⟩ hf _ _
  obtain ⟨A1, n1, k1, A2, n2, k2, A3, n3, k3, A4, n4, k4, rfl, hSP⟩ := (hS.mono (slq_le hf)).Q
  obtain ⟨rfl, rfl, rfl, rfl⟩ := hSP.len
  clear hf hS
  refine xk_alloc (cs := [.slice none 0 0, .slice none 0 0, .slice none 0 0, .slice none 0 0]) (zeroB_of (by kernel_rfl)) (by decide) fun g1 => ?_
  (first | (refine xk_storeN 0 rfl rfl rfl (by kernel_rfl) (by simp [Value.cells, Value.oneCell']) (by simp [Value.cells]) ?_) | (refine xk_storeN 1 rfl rfl rfl (by kernel_rfl) (by simp [Value.cells, Value.oneCell']) (by simp [Value.cells]) ?_) | (refine xk_storeN 2 rfl rfl rfl (by kernel_rfl) (by simp [Value.cells, Value.oneCell']) (by simp [Value.cells]) ?_) | (refine xk_storeN 3 rfl rfl rfl (by kernel_rfl) (by simp [Value.cells, Value.oneCell']) (by simp [Value.cells]) ?_) | (refine xk_storeN 4 rfl rfl rfl (by kernel_rfl) (by simp [Value.cells, Value.oneCell']) (by simp [Value.cells]) ?_) | (refine xk_storeN 5 rfl rfl rfl (by kernel_rfl) (by simp [Value.cells, Value.oneCell']) (by simp [Value.cells]) ?_) | (refine xk_storeN 6 rfl rfl rfl (by kernel_rfl) (by simp [Value.cells, Value.oneCell']) (by simp [Value.cells]) ?_) | (refine xk_storeN 7 rfl rfl rfl (by kernel_rfl) (by simp [Value.cells, Value.oneCell']) (by simp [Value.cells]) ?_) | (refine xk_storeN 8 rfl rfl rfl (by kernel_rfl) (by simp [Value.cells, Value.oneCell']) (by simp [Value.cells]) ?_)); simp only [putN, Value.cells, List.set, List.take, List.drop, List.nil_append, List.append_nil, List.length_cons, List.length_nil, List.cons_append, Nat.reduceAdd]
  refine XK.nil ?_
  (repeat (first | refine XK.thenN ?_ | refine XK.thenE ?_ | refine XK.thenR ?_ | refine XK.inN ?_ | refine XK.inE ?_ | refine XK.inR ?_ | refine XK.inF rfl ?_))
  refine XK.seq ?_
  refine XK.seq ?_

  refine XK.region ?_
  refine xk_move rfl (by decide) ?_
  (first | refine xk_notD rfl (by decide) ?_ | refine xk_not rfl (by decide) ?_)
  refine xk_move rfl (by decide) ?_
  (first | refine xk_split (t := 20) rfl (fun hg => ?_) (fun hg => ?_) | refine xk_splitB (t := 20) rfl (fun hg => ?_) (fun hg => ?_))
  ·
    refine xk_guardF rfl rfl rfl (by decide) ?_
    refine xk_guardF rfl rfl rfl (by decide) ?_
    refine xk_guardF rfl rfl rfl (by decide) ?_
    (first | refine xk_pickT rfl rfl (by decide) ?_ | refine xk_pickF rfl rfl (by decide) ?_)
    refine XK.nil ?_
    (repeat (first | refine XK.thenN ?_ | refine XK.thenE ?_ | refine XK.thenR ?_ | refine XK.inN ?_ | refine XK.inE ?_ | refine XK.inR ?_ | refine XK.inF rfl ?_))
    refine XK.cond rfl (fun _ => ?_) (fun h => by cases h)
    refine XK.seq ?_

    refine XK.region ?_
    refine xk_move rfl (by decide) ?_
    refine xk_assign rfl (by decide) ?_
    refine XK.nil ?_
    (repeat (first | refine XK.thenN ?_ | refine XK.thenE ?_ | refine XK.thenR ?_ | refine XK.inN ?_ | refine XK.inE ?_ | refine XK.inR ?_ | refine XK.inF rfl ?_))
    refine XK.ret ?_
    (repeat (first | refine XK.thenN ?_ | refine XK.thenE ?_ | refine XK.thenR ?_ | refine XK.inN ?_ | refine XK.inE ?_ | refine XK.inR ?_ | refine XK.inF rfl ?_))
    first | exact XK.ret1 rfl rfl fun w1 st => ⟨rfl, st.below (by simp)⟩ | exact absurd rfl hg | cases hg | exact absurd hM1 hg | exact absurd hM2 hg | exact absurd hM3 hg
  ·
    refine xk_guardT rfl rfl ?_; refine xk_move rfl (by decide) ?_
    refine xk_guardT rfl rfl ?_; refine xk_len (el := 40) (by kernel_rfl) rfl (by decide) ?_
    refine xk_guardT rfl rfl ?_; refine xk_gtr rfl rfl (by decide) ?_
    (first | refine xk_pickT rfl rfl (by decide) ?_ | refine xk_pickF rfl rfl (by decide) ?_)
    refine XK.nil ?_
    (repeat (first | refine XK.thenN ?_ | refine XK.thenE ?_ | refine XK.thenR ?_ | refine XK.inN ?_ | refine XK.inE ?_ | refine XK.inR ?_ | refine XK.inF rfl ?_))
    refine XK.if_ rfl (fun h => ?_) (fun h150 => ?_)
    ·
      refine XK.seq ?_

      refine XK.region ?_
      refine xk_move rfl (by decide) ?_
      refine xk_assign rfl (by decide) ?_
      refine XK.nil ?_
      (repeat (first | refine XK.thenN ?_ | refine XK.thenE ?_ | refine XK.thenR ?_ | refine XK.inN ?_ | refine XK.inE ?_ | refine XK.inR ?_ | refine XK.inF rfl ?_))
      refine XK.ret ?_
      (repeat (first | refine XK.thenN ?_ | refine XK.thenE ?_ | refine XK.thenR ?_ | refine XK.inN ?_ | refine XK.inE ?_ | refine XK.inR ?_ | refine XK.inF rfl ?_))
      first | exact XK.ret1 rfl rfl fun w1 st => ⟨rfl, st.below (by simp)⟩ | exact absurd rfl hg | cases hg | exact absurd hM1 hg | exact absurd hM2 hg | exact absurd hM3 hg
    ·
      refine XK.skip ?_
      (repeat (first | refine XK.thenN ?_ | refine XK.thenE ?_ | refine XK.thenR ?_ | refine XK.inN ?_ | refine XK.inE ?_ | refine XK.inR ?_ | refine XK.inF rfl ?_))
      refine XK.seq ?_

      refine XK.region ?_
      refine xk_move rfl (by decide) ?_
      refine xk_move rfl (by decide) ?_
      refine xk_len (el := 40) (by kernel_rfl) rfl (by decide) ?_
      refine xk_add rfl rfl (wrap_in (by omega)) (by decide) ?_
      refine xk_callV (f := 31) (fi := []) (ca := []) (by kernel_rfl) rfl rfl (by decide) (fun v => ∃ r : Int, v = .int .i64 r ∧ 0 ≤ r ∧ r < (ne : Int) + 1) (fun w1 st => pick20_any at' ((ne : Int) + 1) w1 hat (by omega)) fun v hv => ?_
      obtain ⟨r, rfl, hr0, hr1⟩ := hv
      obtain ⟨k, rfl⟩ : ∃ k : Nat, r = (k : Int) := ⟨r.toNat, by omega⟩
      have hk : k ≤ es.length := by omega
      have hke : es = es.take k ++ es.drop k := (List.take_append_drop k es).symm
      have hkl : (es.take k).length = k := by rw [List.length_take]; omega
      have h151 : ne ≤ 150 := by have h' : ¬ (150 < (ne : Int)) := h150; omega
      have hml : ne + 1 = (moreE es k).length := by rw [moreE_len, hne]
      have hq : evQ qEv := rfl
      have hM0 : lookF (moreE es k) = lookF es := by have h := look_q (es.take k) (es.drop k) qEv hq; rw [← hke] at h; exact h
      have hM1 : movedF (ordF s.devs es) k = ordF s.devs (moreE es k) := by have h := ord_moved s.devs (es.take k) (es.drop k) qEv hq; rw [← hke, hkl] at h; exact h
      have hM2 : movedF (safeF es) k = safeF (moreE es k) := by have h := safe_moved (es.take k) (es.drop k) qEv hq; rw [← hke, hkl] at h; exact h
      have hM3 : movedF (repliesF es) k = repliesF (moreE es k) := by have h := rep_moved (es.take k) (es.drop k) qEv hq; rw [← hke, hkl] at h; exact h
      have hM4 : openF (moreE es k) = openF es := by have h := open_q (es.take k) (es.drop k) qEv hq; rw [← hke] at h; exact h
      refine xk_assign rfl (by decide) ?_
      refine XK.nil ?_
      (repeat (first | refine XK.thenN ?_ | refine XK.thenE ?_ | refine XK.thenR ?_ | refine XK.inN ?_ | refine XK.inE ?_ | refine XK.inR ?_ | refine XK.inF rfl ?_))
      refine XK.seq ?_

      refine XK.region ?_
      refine xk_slice0 (el := 40) (sz := 14) (by kernel_rfl) (by kernel_rfl) (by decide) fun g2 => ?_
      refine XK.closeOwn 0 (n := 0) (c := 0) (sz := 14) (xs := []) rfl rfl rfl (Nat.le_refl _) (Nat.zero_le _) ?_
      dsimp only [List.set]
      refine xk_move rfl (by decide) ?_
      refine xk_move rfl (by decide) ?_
      refine xk_sliceH k (el := 40) (sz := 14) (by kernel_rfl) (by kernel_rfl) rfl rfl rfl (by omega) (by decide) fun Ak hA' => ?_
      have hEk := evs_take hE k hA'
      refine xk_appendT 0 14 120 k (n' := k) (el := 40) (by kernel_rfl) (by kernel_rfl) (by decide) rfl rfl rfl (fun w1 st => by have h := (hEk.thn (st.below (by simp))).1; rw [hkl] at h; exact ⟨_, h⟩) (ev_one _) (by omega) (by omega) (by omega) (by decide) fun B1 c1 => ?_
      dsimp only [List.set]
      refine xk_assign rfl (by decide) ?_
      refine XK.nil ?_
      (repeat (first | refine XK.thenN ?_ | refine XK.thenE ?_ | refine XK.thenR ?_ | refine XK.inN ?_ | refine XK.inE ?_ | refine XK.inR ?_ | refine XK.inF rfl ?_))
      refine XK.seq ?_

      refine XK.region ?_
      refine xk_move rfl (by decide) ?_
      refine xk_buildS (zs := [.int .u8 0, .int .i64 0, .int .u8 0, .int .i64 0, .int .i64 0, .int .u32 0, .int .i64 0, .int .u32 0, .int .i64 0, .int .i64 0, .bool false, .int .u32 0, .bool false, .slice none 0 0]) (L := [(0, 1), (1, 1), (2, 4), (6, 2), (8, 4), (12, 1), (13, 1)]) (zeroB_of (by kernel_rfl)) (by kernel_rfl) rfl (by simp [fillL, setN, Value.cells]; rfl) (by decide) ?_
      refine xk_slice (el := 40) (sz := 14) (zs := [.int .u8 0, .int .i64 0, .int .u8 0, .int .i64 0, .int .i64 0, .int .u32 0, .int .i64 0, .int .u32 0, .int .i64 0, .int .i64 0, .bool false, .int .u32 0, .bool false, .slice none 0 0]) (by kernel_rfl) (zeroB_of (by kernel_rfl)) (by kernel_rfl) rfl (by decide) (by decide) rfl (by simp [fillL, setN, Value.cells, List.range_succ, List.set]; rfl) (by decide) fun g3 => ?_
      refine xk_appendT 1 14 120 1 (n' := k + 1) (el := 40) (by kernel_rfl) (by kernel_rfl) (by decide) rfl rfl rfl (sl_blk 0 rfl rfl) (by simp [Value.oneCell']) (by omega) (by omega) (by omega) (by decide) fun B2 c2 => ?_
      dsimp only [List.set]
      refine xk_assign rfl (by decide) ?_
      refine XK.nil ?_
      (repeat (first | refine XK.thenN ?_ | refine XK.thenE ?_ | refine XK.thenR ?_ | refine XK.inN ?_ | refine XK.inE ?_ | refine XK.inR ?_ | refine XK.inF rfl ?_))
      refine XK.seq ?_

      refine XK.region ?_
      refine xk_move rfl (by decide) ?_
      refine xk_move rfl (by decide) ?_
      refine xk_move rfl (by decide) ?_
      refine xk_sliceL k (el := 40) (sz := 14) (by kernel_rfl) (by kernel_rfl) rfl rfl rfl (by omega) (by omega) (by decide) fun Ad hA' => ?_
      have hEd := evs_drop hE k (by rw [← hne]; exact hA')
      have hdl : (es.drop k).length = ne - k := by rw [List.length_drop, hne]
      refine xk_appendT 1 14 120 (ne - k) (n' := ne + 1) (el := 40) (by kernel_rfl) (by kernel_rfl) (by decide) rfl rfl rfl (fun w1 st => by have h := (hEd.thn (st.below (by simp))).1; rw [hdl] at h; exact ⟨_, h⟩) (ev_one _) (by omega) (by omega) (by omega) (by decide) fun B3 c3 => ?_
      dsimp only [List.set]
      refine xk_assign rfl (by decide) ?_
      refine XK.nil ?_
      (repeat (first | refine XK.thenN ?_ | refine XK.thenE ?_ | refine XK.thenR ?_ | refine XK.inN ?_ | refine XK.inE ?_ | refine XK.inR ?_ | refine XK.inF rfl ?_))
      refine XK.seq ?_
      refine XK.still [q1] [1] [2] (by simp) rfl (by decide) (by decide) fun q2 hq2 Lq2 _ => ?_
      have Lq2 := Lq2 q1 (by simp)
      obtain ⟨F2, sf2, zf2⟩ := hq2 1 _ (by simp) rfl
      obtain ⟨Am, cm, hBm, hsm⟩ := SlS.of_own (Y := q2.Z) sf2 zf2
      cases hBm
      have hsm : SlS q2 14 B3 (moreE es k).length ((moreE es k).flatMap Ev.cells) := by rw [moreE_cells, ← hml]; exact hsm
      have hMore : ∀ w1, q2.Le (all w1) → Below w.heap.size w w1 → Evs w1 w1.heap.size B3 (moreE es k) := fun w1 hl hb => evs_more (hE.thn hb) (SlS.le hsm hl)
      clear hq2 sf2 zf2

      refine XK.region ?_
      refine xk_loadN 4 (by kernel_rfl) rfl (by first | assumption | exact RdN.whole 0 rfl | exact RdN.whole 1 rfl | exact RdN.whole 2 rfl | exact RdN.whole 3 rfl | exact RdN.whole 4 rfl | exact RdN.whole 5 rfl | exact RdN.whole 6 rfl | exact RdN.whole 7 rfl | exact RdN.whole 8 rfl | exact RdN.roc (by simp) (by assumption)) rfl (by decide) ?_
      refine xk_move rfl (by decide) ?_
      refine xk_callR (f := 32) (fi := []) (ca := []) (by kernel_rfl) rfl rfl (by decide) (fun w1 st => order_S s A1 A2 A3 A4 _ k1 _ k2 _ k3 _ k4 Ae ne ce es w1 (hSP.W (st.le (by simp)) (made_small hm)) (made_check hm) (by have := hm.nv; omega) (hE.thn (st.below (by simp))).S hne (by omega)) ?_
      refine xk_move rfl (by decide) ?_
      refine xk_extract rfl rfl (by decide) ?_
      refine xk_extract rfl rfl (by decide) ?_
      refine xk_assign rfl (by decide) ?_
      refine xk_assign rfl (by decide) ?_
      refine XK.nil ?_
      (repeat (first | refine XK.thenN ?_ | refine XK.thenE ?_ | refine XK.thenR ?_ | refine XK.inN ?_ | refine XK.inE ?_ | refine XK.inR ?_ | refine XK.inF rfl ?_))
      refine XK.seq ?_

      refine XK.region ?_
      refine xk_loadN 4 (by kernel_rfl) rfl (by first | assumption | exact RdN.whole 0 rfl | exact RdN.whole 1 rfl | exact RdN.whole 2 rfl | exact RdN.whole 3 rfl | exact RdN.whole 4 rfl | exact RdN.whole 5 rfl | exact RdN.whole 6 rfl | exact RdN.whole 7 rfl | exact RdN.whole 8 rfl | exact RdN.roc (by simp) (by assumption)) rfl (by decide) ?_
      refine xk_move rfl (by decide) ?_
      refine xk_callR (f := 32) (fi := []) (ca := []) (by kernel_rfl) rfl rfl (by decide) (fun w1 st => order_S s A1 A2 A3 A4 _ k1 _ k2 _ k3 _ k4 B3 (ne + 1) c3 (moreE es k) w1 (hSP.W (st.le (by simp)) (made_small hm)) (made_check hm) (by have := hm.nv; omega) (hMore w1 (st.le (by simp)) (st.below (by simp))).S hml (by omega)) ?_
      refine xk_move rfl (by decide) ?_
      refine xk_extract rfl rfl (by decide) ?_
      refine xk_extract rfl rfl (by decide) ?_
      refine xk_assign rfl (by decide) ?_
      refine xk_assign rfl (by decide) ?_
      refine XK.nil ?_
      (repeat (first | refine XK.thenN ?_ | refine XK.thenE ?_ | refine XK.thenR ?_ | refine XK.inN ?_ | refine XK.inE ?_ | refine XK.inR ?_ | refine XK.inF rfl ?_))
      refine XK.seq ?_

      refine XK.region ?_
      refine xk_move rfl (by decide) ?_
      refine xk_callR (f := 13) (fi := []) (ca := []) (by kernel_rfl) rfl rfl (by decide) (fun w1 st => look_any Ae ne ce es w1 (hE.thn (st.below (by simp))) hne (by omega)) ?_
      refine xk_move rfl (by decide) ?_
      refine xk_callR (f := 13) (fi := []) (ca := []) (by kernel_rfl) rfl rfl (by decide) (fun w1 st => look_any B3 (ne + 1) c3 (moreE es k) w1 (hMore w1 (st.le (by simp)) (st.below (by simp))) hml (by omega)) ?_
      rw [hM0]
      refine xk_eqlS (xs := rpV (lookF es)) (ys := rpV (lookF es)) (by kernel_rfl) rfl rfl (by decide) ?_
      rw [show eqVs (rpV (lookF es)) (rpV (lookF es)) = true by simp [rpV, eqVs, eqV]]
      refine xk_move rfl (by decide) ?_
      (first | refine xk_split (t := 62) rfl (fun hg => ?_) (fun hg => ?_) | refine xk_splitB (t := 62) rfl (fun hg => ?_) (fun hg => ?_))
      ·
        refine xk_guardT rfl rfl ?_; refine xk_move rfl (by decide) ?_
        refine xk_guardT rfl rfl ?_; refine xk_move rfl (by decide) ?_
        refine xk_guardT rfl rfl ?_; refine xk_eql rfl rfl (by decide) ?_
        (first | refine xk_pickT rfl rfl (by decide) ?_ | refine xk_pickF rfl rfl (by decide) ?_)
        refine xk_move rfl (by decide) ?_
        (first | refine xk_split (t := 67) rfl (fun hg => ?_) (fun hg => ?_) | refine xk_splitB (t := 67) rfl (fun hg => ?_) (fun hg => ?_))
        ·
          refine xk_guardT rfl rfl ?_; refine xk_move rfl (by decide) ?_
          refine xk_guardT rfl rfl ?_; refine xk_move rfl (by decide) ?_
          refine xk_guardT rfl rfl ?_; refine xk_callR (f := 35) (fi := []) (ca := []) (by kernel_rfl) rfl rfl (by decide) (fun w1 st => moved_any (ordF s.devs es) k w1 (by have := ordF_bd s.devs es; omega)) ?_
          refine xk_guardT rfl rfl ?_; refine xk_move rfl (by decide) ?_
          refine xk_guardT rfl rfl ?_; refine xk_eql rfl rfl (by decide) ?_
          (first | refine xk_pickT rfl rfl (by decide) ?_ | refine xk_pickF rfl rfl (by decide) ?_)
          refine xk_move rfl (by decide) ?_
          (first | refine xk_split (t := 74) rfl (fun hg => ?_) (fun hg => ?_) | refine xk_splitB (t := 74) rfl (fun hg => ?_) (fun hg => ?_))
          ·
            refine xk_guardT rfl rfl ?_; refine xk_move rfl (by decide) ?_
            refine xk_guardT rfl rfl ?_; refine xk_callR (f := 14) (fi := []) (ca := []) (by kernel_rfl) rfl rfl (by decide) (fun w1 st => safe_any Ae ne ce es w1 (hE.thn (st.below (by simp))) hne (by omega)) ?_
            refine xk_guardT rfl rfl ?_; refine xk_move rfl (by decide) ?_
            refine xk_guardT rfl rfl ?_; refine xk_callR (f := 35) (fi := []) (ca := []) (by kernel_rfl) rfl rfl (by decide) (fun w1 st => moved_any (safeF es) k w1 (by have := safeF_bd es; omega)) ?_
            refine xk_guardT rfl rfl ?_; refine xk_move rfl (by decide) ?_
            refine xk_guardT rfl rfl ?_; refine xk_callR (f := 14) (fi := []) (ca := []) (by kernel_rfl) rfl rfl (by decide) (fun w1 st => safe_any B3 (ne + 1) c3 (moreE es k) w1 (hMore w1 (st.le (by simp)) (st.below (by simp))) hml (by omega)) ?_
            refine xk_guardT rfl rfl ?_; refine xk_eql rfl rfl (by decide) ?_
            (first | refine xk_pickT rfl rfl (by decide) ?_ | refine xk_pickF rfl rfl (by decide) ?_)
            refine xk_move rfl (by decide) ?_
            (first | refine xk_split (t := 83) rfl (fun hg => ?_) (fun hg => ?_) | refine xk_splitB (t := 83) rfl (fun hg => ?_) (fun hg => ?_))
            ·
              refine xk_guardT rfl rfl ?_; refine xk_move rfl (by decide) ?_
              refine xk_guardT rfl rfl ?_; refine xk_callR (f := 34) (fi := []) (ca := []) (by kernel_rfl) rfl rfl (by decide) (fun w1 st => replies_any Ae ne ce es w1 (hE.thn (st.below (by simp))) hne (by omega)) ?_
              refine xk_guardT rfl rfl ?_; refine xk_move rfl (by decide) ?_
              refine xk_guardT rfl rfl ?_; refine xk_callR (f := 35) (fi := []) (ca := []) (by kernel_rfl) rfl rfl (by decide) (fun w1 st => moved_any (repliesF es) k w1 (by have := repF_bd es; omega)) ?_
              refine xk_guardT rfl rfl ?_; refine xk_move rfl (by decide) ?_
              refine xk_guardT rfl rfl ?_; refine xk_callR (f := 34) (fi := []) (ca := []) (by kernel_rfl) rfl rfl (by decide) (fun w1 st => replies_any B3 (ne + 1) c3 (moreE es k) w1 (hMore w1 (st.le (by simp)) (st.below (by simp))) hml (by omega)) ?_
              refine xk_guardT rfl rfl ?_; refine xk_eql rfl rfl (by decide) ?_
              (first | refine xk_pickT rfl rfl (by decide) ?_ | refine xk_pickF rfl rfl (by decide) ?_)
              refine xk_move rfl (by decide) ?_
              (first | refine xk_split (t := 92) rfl (fun hg => ?_) (fun hg => ?_) | refine xk_splitB (t := 92) rfl (fun hg => ?_) (fun hg => ?_))
              ·
                refine xk_guardT rfl rfl ?_; refine xk_move rfl (by decide) ?_
                refine xk_guardT rfl rfl ?_; refine xk_call [] (f := 16) (fi := []) (ca := []) (by kernel_rfl) rfl rfl (by decide) (by simp) (OpenR (openF es)) (fun w1 st => open_r (hE.thn (st.below (by simp))) hne (by omega)) ?_
                rintro _ w1 q3 ⟨O1, cO1, rfl, hO1⟩ hf _ _
                have hO1 := hO1.le hf
                clear hf
                refine xk_guardT rfl rfl ?_; refine xk_move rfl (by decide) ?_
                refine xk_guardT rfl rfl ?_; refine xk_call [] (f := 16) (fi := []) (ca := []) (by kernel_rfl) rfl rfl (by decide) (by simp) (OpenR (openF (moreE es k))) (fun w1 st => open_r (hMore w1 (st.le (by simp)) (st.below (by simp))) hml (by omega)) ?_
                rintro _ w1 q4 ⟨O2, cO2, rfl, hO2⟩ hf _ _
                have hO2 := hO2.le hf
                clear hf
                rw [hM4] at hO2 ⊢
                have hol : (openF es).length ≤ 3 := by unfold openF; exact List.length_filter_le _ _
                refine xk_guardT rfl rfl ?_; refine xk_callR (f := 15) (fi := []) (ca := []) (by kernel_rfl) rfl rfl (by decide) (fun w1 st => same20_any O1 O2 (openF es).length cO1 cO2 (openF es) w1 (hO1.le (st.le (by simp))) (hO2.le (st.le (by simp))) rfl (by omega)) ?_
                (first | refine xk_pickT rfl rfl (by decide) ?_ | refine xk_pickF rfl rfl (by decide) ?_)
                refine xk_assign rfl (by decide) ?_
                refine XK.nil ?_
                (repeat (first | refine XK.thenN ?_ | refine XK.thenE ?_ | refine XK.thenR ?_ | refine XK.inN ?_ | refine XK.inE ?_ | refine XK.inR ?_ | refine XK.inF rfl ?_))
                refine XK.ret ?_
                (repeat (first | refine XK.thenN ?_ | refine XK.thenE ?_ | refine XK.thenR ?_ | refine XK.inN ?_ | refine XK.inE ?_ | refine XK.inR ?_ | refine XK.inF rfl ?_))
                first | exact XK.ret1 rfl rfl fun w1 st => ⟨rfl, st.below (by simp)⟩ | exact absurd rfl hg | cases hg | exact absurd hM1 hg | exact absurd hM2 hg | exact absurd hM3 hg
              ·
                refine xk_guardF rfl rfl rfl (by decide) ?_
                refine xk_guardF rfl rfl rfl (by decide) ?_
                refine xk_guardF rfl rfl rfl (by decide) ?_
                refine xk_guardF rfl rfl rfl (by decide) ?_
                refine xk_guardF rfl rfl rfl (by decide) ?_
                (first | refine xk_pickT rfl rfl (by decide) ?_ | refine xk_pickF rfl rfl (by decide) ?_)
                refine xk_assign rfl (by decide) ?_
                refine XK.nil ?_
                (repeat (first | refine XK.thenN ?_ | refine XK.thenE ?_ | refine XK.thenR ?_ | refine XK.inN ?_ | refine XK.inE ?_ | refine XK.inR ?_ | refine XK.inF rfl ?_))
                refine XK.ret ?_
                (repeat (first | refine XK.thenN ?_ | refine XK.thenE ?_ | refine XK.thenR ?_ | refine XK.inN ?_ | refine XK.inE ?_ | refine XK.inR ?_ | refine XK.inF rfl ?_))
                first | exact XK.ret1 rfl rfl fun w1 st => ⟨rfl, st.below (by simp)⟩ | exact absurd rfl hg | cases hg | exact absurd hM1 hg | exact absurd hM2 hg | exact absurd hM3 hg
            ·
              refine xk_guardF rfl rfl rfl (by decide) ?_
              refine xk_guardF rfl rfl rfl (by decide) ?_
              refine xk_guardF rfl rfl rfl (by decide) ?_
              refine xk_guardF rfl rfl rfl (by decide) ?_
              refine xk_guardF rfl rfl rfl (by decide) ?_
              refine xk_guardF rfl rfl rfl (by decide) ?_
              refine xk_guardF rfl rfl rfl (by decide) ?_
              (first | refine xk_pickT rfl rfl (by decide) ?_ | refine xk_pickF rfl rfl (by decide) ?_)
              refine xk_move rfl (by decide) ?_
              refine xk_guardF rfl rfl rfl (by decide) ?_
              refine xk_guardF rfl rfl rfl (by decide) ?_
              refine xk_guardF rfl rfl rfl (by decide) ?_
              refine xk_guardF rfl rfl rfl (by decide) ?_
              refine xk_guardF rfl rfl rfl (by decide) ?_
              (first | refine xk_pickT rfl rfl (by decide) ?_ | refine xk_pickF rfl rfl (by decide) ?_)
              refine xk_assign rfl (by decide) ?_
              refine XK.nil ?_
              (repeat (first | refine XK.thenN ?_ | refine XK.thenE ?_ | refine XK.thenR ?_ | refine XK.inN ?_ | refine XK.inE ?_ | refine XK.inR ?_ | refine XK.inF rfl ?_))
              refine XK.ret ?_
              (repeat (first | refine XK.thenN ?_ | refine XK.thenE ?_ | refine XK.thenR ?_ | refine XK.inN ?_ | refine XK.inE ?_ | refine XK.inR ?_ | refine XK.inF rfl ?_))
              first | exact XK.ret1 rfl rfl fun w1 st => ⟨rfl, st.below (by simp)⟩ | exact absurd rfl hg | cases hg | exact absurd hM1 hg | exact absurd hM2 hg | exact absurd hM3 hg
          ·
            refine xk_guardF rfl rfl rfl (by decide) ?_
            refine xk_guardF rfl rfl rfl (by decide) ?_
            refine xk_guardF rfl rfl rfl (by decide) ?_
            refine xk_guardF rfl rfl rfl (by decide) ?_
            refine xk_guardF rfl rfl rfl (by decide) ?_
            refine xk_guardF rfl rfl rfl (by decide) ?_
            refine xk_guardF rfl rfl rfl (by decide) ?_
            (first | refine xk_pickT rfl rfl (by decide) ?_ | refine xk_pickF rfl rfl (by decide) ?_)
            refine xk_move rfl (by decide) ?_
            refine xk_guardF rfl rfl rfl (by decide) ?_
            refine xk_guardF rfl rfl rfl (by decide) ?_
            refine xk_guardF rfl rfl rfl (by decide) ?_
            refine xk_guardF rfl rfl rfl (by decide) ?_
            refine xk_guardF rfl rfl rfl (by decide) ?_
            refine xk_guardF rfl rfl rfl (by decide) ?_
            refine xk_guardF rfl rfl rfl (by decide) ?_
            (first | refine xk_pickT rfl rfl (by decide) ?_ | refine xk_pickF rfl rfl (by decide) ?_)
            refine xk_move rfl (by decide) ?_
            refine xk_guardF rfl rfl rfl (by decide) ?_
            refine xk_guardF rfl rfl rfl (by decide) ?_
            refine xk_guardF rfl rfl rfl (by decide) ?_
            refine xk_guardF rfl rfl rfl (by decide) ?_
            refine xk_guardF rfl rfl rfl (by decide) ?_
            (first | refine xk_pickT rfl rfl (by decide) ?_ | refine xk_pickF rfl rfl (by decide) ?_)
            refine xk_assign rfl (by decide) ?_
            refine XK.nil ?_
            (repeat (first | refine XK.thenN ?_ | refine XK.thenE ?_ | refine XK.thenR ?_ | refine XK.inN ?_ | refine XK.inE ?_ | refine XK.inR ?_ | refine XK.inF rfl ?_))
            refine XK.ret ?_
            (repeat (first | refine XK.thenN ?_ | refine XK.thenE ?_ | refine XK.thenR ?_ | refine XK.inN ?_ | refine XK.inE ?_ | refine XK.inR ?_ | refine XK.inF rfl ?_))
            first | exact XK.ret1 rfl rfl fun w1 st => ⟨rfl, st.below (by simp)⟩ | exact absurd rfl hg | cases hg | exact absurd hM1 hg | exact absurd hM2 hg | exact absurd hM3 hg
        ·
          refine xk_guardF rfl rfl rfl (by decide) ?_
          refine xk_guardF rfl rfl rfl (by decide) ?_
          refine xk_guardF rfl rfl rfl (by decide) ?_
          refine xk_guardF rfl rfl rfl (by decide) ?_
          refine xk_guardF rfl rfl rfl (by decide) ?_
          (first | refine xk_pickT rfl rfl (by decide) ?_ | refine xk_pickF rfl rfl (by decide) ?_)
          refine xk_move rfl (by decide) ?_
          refine xk_guardF rfl rfl rfl (by decide) ?_
          refine xk_guardF rfl rfl rfl (by decide) ?_
          refine xk_guardF rfl rfl rfl (by decide) ?_
          refine xk_guardF rfl rfl rfl (by decide) ?_
          refine xk_guardF rfl rfl rfl (by decide) ?_
          refine xk_guardF rfl rfl rfl (by decide) ?_
          refine xk_guardF rfl rfl rfl (by decide) ?_
          (first | refine xk_pickT rfl rfl (by decide) ?_ | refine xk_pickF rfl rfl (by decide) ?_)
          refine xk_move rfl (by decide) ?_
          refine xk_guardF rfl rfl rfl (by decide) ?_
          refine xk_guardF rfl rfl rfl (by decide) ?_
          refine xk_guardF rfl rfl rfl (by decide) ?_
          refine xk_guardF rfl rfl rfl (by decide) ?_
          refine xk_guardF rfl rfl rfl (by decide) ?_
          refine xk_guardF rfl rfl rfl (by decide) ?_
          refine xk_guardF rfl rfl rfl (by decide) ?_
          (first | refine xk_pickT rfl rfl (by decide) ?_ | refine xk_pickF rfl rfl (by decide) ?_)
          refine xk_move rfl (by decide) ?_
          refine xk_guardF rfl rfl rfl (by decide) ?_
          refine xk_guardF rfl rfl rfl (by decide) ?_
          refine xk_guardF rfl rfl rfl (by decide) ?_
          refine xk_guardF rfl rfl rfl (by decide) ?_
          refine xk_guardF rfl rfl rfl (by decide) ?_
          (first | refine xk_pickT rfl rfl (by decide) ?_ | refine xk_pickF rfl rfl (by decide) ?_)
          refine xk_assign rfl (by decide) ?_
          refine XK.nil ?_
          (repeat (first | refine XK.thenN ?_ | refine XK.thenE ?_ | refine XK.thenR ?_ | refine XK.inN ?_ | refine XK.inE ?_ | refine XK.inR ?_ | refine XK.inF rfl ?_))
          refine XK.ret ?_
          (repeat (first | refine XK.thenN ?_ | refine XK.thenE ?_ | refine XK.thenR ?_ | refine XK.inN ?_ | refine XK.inE ?_ | refine XK.inR ?_ | refine XK.inF rfl ?_))
          first | exact XK.ret1 rfl rfl fun w1 st => ⟨rfl, st.below (by simp)⟩ | exact absurd rfl hg | cases hg | exact absurd hM1 hg | exact absurd hM2 hg | exact absurd hM3 hg
      ·
        refine xk_guardF rfl rfl rfl (by decide) ?_
        refine xk_guardF rfl rfl rfl (by decide) ?_
        refine xk_guardF rfl rfl rfl (by decide) ?_
        (first | refine xk_pickT rfl rfl (by decide) ?_ | refine xk_pickF rfl rfl (by decide) ?_)
        refine xk_move rfl (by decide) ?_
        refine xk_guardF rfl rfl rfl (by decide) ?_
        refine xk_guardF rfl rfl rfl (by decide) ?_
        refine xk_guardF rfl rfl rfl (by decide) ?_
        refine xk_guardF rfl rfl rfl (by decide) ?_
        refine xk_guardF rfl rfl rfl (by decide) ?_
        (first | refine xk_pickT rfl rfl (by decide) ?_ | refine xk_pickF rfl rfl (by decide) ?_)
        refine xk_move rfl (by decide) ?_
        refine xk_guardF rfl rfl rfl (by decide) ?_
        refine xk_guardF rfl rfl rfl (by decide) ?_
        refine xk_guardF rfl rfl rfl (by decide) ?_
        refine xk_guardF rfl rfl rfl (by decide) ?_
        refine xk_guardF rfl rfl rfl (by decide) ?_
        refine xk_guardF rfl rfl rfl (by decide) ?_
        refine xk_guardF rfl rfl rfl (by decide) ?_
        (first | refine xk_pickT rfl rfl (by decide) ?_ | refine xk_pickF rfl rfl (by decide) ?_)
        refine xk_move rfl (by decide) ?_
        refine xk_guardF rfl rfl rfl (by decide) ?_
        refine xk_guardF rfl rfl rfl (by decide) ?_
        refine xk_guardF rfl rfl rfl (by decide) ?_
        refine xk_guardF rfl rfl rfl (by decide) ?_
        refine xk_guardF rfl rfl rfl (by decide) ?_
        refine xk_guardF rfl rfl rfl (by decide) ?_
        refine xk_guardF rfl rfl rfl (by decide) ?_
        (first | refine xk_pickT rfl rfl (by decide) ?_ | refine xk_pickF rfl rfl (by decide) ?_)
        refine xk_move rfl (by decide) ?_
        refine xk_guardF rfl rfl rfl (by decide) ?_
        refine xk_guardF rfl rfl rfl (by decide) ?_
        refine xk_guardF rfl rfl rfl (by decide) ?_
        refine xk_guardF rfl rfl rfl (by decide) ?_
        refine xk_guardF rfl rfl rfl (by decide) ?_
        (first | refine xk_pickT rfl rfl (by decide) ?_ | refine xk_pickF rfl rfl (by decide) ?_)
        refine xk_assign rfl (by decide) ?_
        refine XK.nil ?_
        (repeat (first | refine XK.thenN ?_ | refine XK.thenE ?_ | refine XK.thenR ?_ | refine XK.inN ?_ | refine XK.inE ?_ | refine XK.inR ?_ | refine XK.inF rfl ?_))
        refine XK.ret ?_
        (repeat (first | refine XK.thenN ?_ | refine XK.thenE ?_ | refine XK.thenR ?_ | refine XK.inN ?_ | refine XK.inE ?_ | refine XK.inR ?_ | refine XK.inF rfl ?_))
        first | exact XK.ret1 rfl rfl fun w1 st => ⟨rfl, st.below (by simp)⟩ | exact absurd rfl hg | cases hg | exact absurd hM1 hg | exact absurd hM2 hg | exact absurd hM3 hg

end Go.Proofs.Ytbgibbbggajgaaa
