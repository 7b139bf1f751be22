/- package reset: Tick. -/
import Derived.Test.YticjkhagldkejaaGreatDoorFirmRatesK6
namespace Go.Proofs.YticjkhagldkejaaGreatDoor
set_option linter.all false
set_option maxHeartbeats 4000000
set_option maxRecDepth 20000
open Go.RowKit
theorem map_same {α : Type} (f : α → α) (st : List α) {i : Nat} {x : α} (hx : st[i]? = some x) (hs : f x = x) : (st.map f).take i ++ st.drop i = (st.map f).take (i + 1) ++ st.drop (i + 1) := by
 have h1 := mid_succ f st hx
 rw [hs, set_same' (by rw [mid_get f st (List.getElem?_eq_some_iff.1 hx).1]; exact hx)] at h1
 exact h1
theorem rstTick_m (L : RL) (s : Soc) (st : List LnS) (hH : s.okH) (hok : LnOk s st) (w : World) (F : Nat → Prop) (hp : (LinesH L s st).sat F w) (hF : ∀ b, F b → b < w.heap.size) :
  Calls Tryz.prog 86 #[.pointer (some ⟨L.t, 0, none⟩)] w (fun y w' => ∃ a : Option Addr × Nat × Nat, y = .returned (.slice a.1 a.2.1 a.2.2) ∧ True ∧ ∃ F', (LinesH L s (tickL st)).sat F' w' ∧ Turns w w' F F') := by
 have hl := hok.len
 have hnr := hH.t.nr
 refine XK.enterM (p := LinesH L s st) (F := F) (vs := [.pointer (some ⟨L.t, 0, none⟩)]) Tryz.func86 rfl Tryz.ntmps86 (by simp) hp hF ?_
 have hrd0 : Rd w [⟨w, fun b => b < w.heap.size ∧ ¬ F b⟩] [LinesH L s st] L.t 0 (.map (some L.g)) := fun w1 t => (t.linesR 0 rfl).r0.2
 refine XK.go ?_
 refine kd (does_lenM (kt := 3) (et := 237) (l := lnL s st) (by kernel_rfl) rfl (fun w1 t => (t.linesR 0 rfl).m)) ?_
 rw [show (lnL s st).length = st.length by simp [lnL]]
 refine XK.go ?_
 refine XK.nilrow 3 1 ?_
 refine XK.envS [(14, .int .i64 0), (13, .int .i64 st.length), (3, .slice none 0 0), (0, .pointer (some ⟨L.t, 0, none⟩))] ?_
 refine XK.loop (fun m e R H => ∃ (i n : Nat) (A : Option Addr) (k : Nat) (xs : List Value), i ≤ st.length ∧ n ≤ i ∧ m = st.length - i ∧ e = [(14, .int .i64 i), (13, .int .i64 st.length), (3, .slice A n k), (0, .pointer (some ⟨L.t, 0, none⟩))] ∧ R = [⟨w, fun b => b < w.heap.size ∧ ¬ F b⟩] ∧ H = [HP.own 3 1 (.slice A n k) n xs, LinesH L s ((st.map tickL1).take i ++ st.drop i)]) st.length ⟨0, 0, none, 0, [], by omega, by omega, rfl, rfl, rfl, by simp⟩ fun m e R H hI => ?_
 obtain ⟨i, n, A, k, xs, hi, hni, rfl, rfl, rfl, rfl⟩ := hI
 refine XK.go ?_
 refine XK.if_ rfl (fun hlt => ?_) (fun hge => ?_)
 ·have hlt : i < st.length := by omega
  obtain ⟨r, hrr⟩ := get_some (l := s.resets) (i := i) (by omega)
  obtain ⟨x, hx⟩ := get_some hlt
  have hlx := hok.left x (List.mem_of_getElem? hx)
  have hrd : s.resets.getD i 0 = r := by rw [List.getD_eq_getElem?_getD, hrr]; rfl
  have hml : ((st.map tickL1).take i ++ st.drop i).length = st.length := by simp; omega
  have hgx : ((st.map tickL1).take i ++ st.drop i)[i]? = some x := by rw [mid_get _ st hlt]; exact hx
  have hin : inB ((st.map tickL1).take i ++ st.drop i).length (i : Int) = true := by rw [hml]; exact decide_eq_true (by omega)
  have hget : mget (lnL s ((st.map tickL1).take i ++ st.drop i)) (i : Int) = some (lnV r x) := by
   rw [mget_ln, if_pos hin, Int.toNat_natCast, hrd, List.getD_eq_getElem?_getD, hgx]; rfl
  have hset : mset (lnL s ((st.map tickL1).take i ++ st.drop i)) (i : Int) (lnV r (tickL1 x)) = lnL s ((st.map tickL1).take (i + 1) ++ st.drop (i + 1)) := by
   rw [mset_ln hrd (by omega), mid_succ tickL1 st hx]
  refine XK.openLines 1 rfl ?_
  dsimp only [List.set]
  refine XK.go ?_
  refine xk_lookup (kt := 3) (et := 237) (kd := .i64) (z := lnV 0 ⟨0, false, false⟩) (l := lnL s ((st.map tickL1).take i ++ st.drop i)) true (by kernel_rfl) (by kernel_rfl) line_zero rfl rfl (fun w1 t => t.map (i := 0) rfl) (by decide) ?_
  simp only [if_true, hget, Option.getD_some, Option.isSome_some]
  obtain ⟨left, held, wanted⟩ := x
  dsimp only at hlx
  dsimp only [lnV]
  refine XK.go ?_
  refine xk_alloc (cs := [.int .i64 0, .int .i64 0, .bool false, .bool false]) (zeroB_of (by kernel_rfl)) (by decide) fun g1 => ?_
  cases held
  ·have hsame : tickL1 ⟨left, false, wanted⟩ = ⟨left, false, wanted⟩ := rfl
   rw [map_same tickL1 st hx hsame]
   refine XK.go ?_
   refine XK.weak [1, 2, 3, 4] rfl (by decide) (fun _ h => h) ?_
   refine XK.closeLines 1 rfl ?_
   refine XK.envS [(14, .int .i64 (i + 1 : Nat)), (13, .int .i64 st.length), (3, .slice A n k), (0, .pointer (some ⟨L.t, 0, none⟩))] ?_
   exact XK.round (st.length - (i + 1)) (by omega) ⟨i + 1, n, A, k, xs, hlt, by omega, rfl, rfl, rfl, rfl⟩
  ·refine XK.go ?_
   refine XK.if_ rfl (fun hp => ?_) (fun hp => ?_)
   ·have ht1 : tickL1 ⟨left, true, wanted⟩ = ⟨left - 1, true, wanted⟩ := by simp [tickL1, hp]
    rw [ht1] at hset
    refine XK.go ?_
    refine XK.draw 6 (by kernel_rfl) (by kernel_rfl) ?_
    refine XA.q 0 ?_
    refine XA.q 1 ?_
    refine XA.q 2 ?_
    refine XA.q 3 ?_
    refine XA.q 4 ?_
    refine XA.q 5 ?_
    refine XA.next 6 rfl (by kernel_rfl) ?_
    refine xk_mapUpdate (kt := 3) (et := 237) (kd := .i64) (l := lnL s ((st.map tickL1).take i ++ st.drop i)) (v := lnV r ⟨left - 1, true, wanted⟩) 1 (by kernel_rfl) (by kernel_rfl) rfl rfl rfl rfl ?_
    rw [hset]
    dsimp only [List.set]
    refine XA.bt ?_
    refine XA.done (by kernel_rfl) ?_
    refine XK.go ?_
    refine XK.weak [1, 2, 3, 4] rfl (by decide) (fun _ h => h) ?_
    refine XK.closeLines 1 rfl ?_
    refine XK.envS [(14, .int .i64 (i + 1 : Nat)), (13, .int .i64 st.length), (3, .slice A n k), (0, .pointer (some ⟨L.t, 0, none⟩))] ?_
    exact XK.round (st.length - (i + 1)) (by omega) ⟨i + 1, n, A, k, xs, hlt, by omega, rfl, rfl, rfl, rfl⟩
   ·cases wanted
    ·have ht1 : tickL1 ⟨left, true, false⟩ = ⟨left, true, false⟩ := by simp [tickL1, hp]
     rw [ht1] at hset
     refine XK.go ?_
     refine XK.draw 6 (by kernel_rfl) (by kernel_rfl) ?_
     refine XA.q 0 ?_
     refine XA.q 1 ?_
     refine XA.q 2 ?_
     refine XA.q 3 ?_
     refine XA.q 4 ?_
     refine XA.q 5 ?_
     refine XA.next 6 rfl (by kernel_rfl) ?_
     refine xk_mapUpdate (kt := 3) (et := 237) (kd := .i64) (l := lnL s ((st.map tickL1).take i ++ st.drop i)) (v := lnV r ⟨left, true, false⟩) 1 (by kernel_rfl) (by kernel_rfl) rfl rfl rfl rfl ?_
     rw [hset]
     dsimp only [List.set]
     refine XA.bt ?_
     refine XA.done (by kernel_rfl) ?_
     refine XK.go ?_
     refine XK.weak [1, 2, 3, 4] rfl (by decide) (fun _ h => h) ?_
     refine XK.closeLines 1 rfl ?_
     refine XK.envS [(14, .int .i64 (i + 1 : Nat)), (13, .int .i64 st.length), (3, .slice A n k), (0, .pointer (some ⟨L.t, 0, none⟩))] ?_
     exact XK.round (st.length - (i + 1)) (by omega) ⟨i + 1, n, A, k, xs, hlt, by omega, rfl, rfl, rfl, rfl⟩
    ·have ht1 : tickL1 ⟨left, true, true⟩ = ⟨left, false, false⟩ := by simp [tickL1, hp]
     rw [ht1] at hset
     refine XK.go ?_
     refine xk_slice (el := 3) (sz := 1) (zs := [.int .i64 0]) (by kernel_rfl) (zeroB_of (by kernel_rfl)) (by kernel_rfl) rfl (by decide) (by decide) rfl (by simp [fillL, setN, Value.cells, List.range_succ, List.set]; rfl) (by decide) fun g2 => ?_
     refine xk_appendT 4 1 8 1 (el := 3) (by kernel_rfl) (by kernel_rfl) (by decide) rfl rfl rfl (sl_blk 0 rfl rfl) (by simp [Value.oneCell']) rfl (by omega) (by omega) (by decide) fun A' k' => ?_
     dsimp only [List.set]
     refine XK.go ?_
     refine XK.draw 6 (by kernel_rfl) (by kernel_rfl) ?_
     refine XA.q 0 ?_
     refine XA.q 1 ?_
     refine XA.q 2 ?_
     refine XA.q 3 ?_
     refine XA.q 4 ?_
     refine XA.q 5 ?_
     refine XA.next 6 rfl (by kernel_rfl) ?_
     refine xk_mapUpdate (kt := 3) (et := 237) (kd := .i64) (l := lnL s ((st.map tickL1).take i ++ st.drop i)) (v := lnV r ⟨left, false, false⟩) 2 (by kernel_rfl) (by kernel_rfl) rfl rfl rfl rfl ?_
     rw [hset]
     dsimp only [List.set]
     refine XA.bt ?_
     refine XA.done (by kernel_rfl) ?_
     refine XK.go ?_
     refine XK.weak [2, 3, 4, 5] rfl (by decide) (fun _ h => h) ?_
     refine XK.closeLines 1 rfl ?_
     refine XK.envS [(14, .int .i64 (i + 1 : Nat)), (13, .int .i64 st.length), (3, .slice A' (n + 1) k'), (0, .pointer (some ⟨L.t, 0, none⟩))] ?_
     exact XK.round (st.length - (i + 1)) (by omega) ⟨i + 1, n + 1, A', k', _, hlt, by omega, rfl, rfl, rfl, rfl⟩
 ·obtain rfl : i = st.length := by omega
  have hfin : (st.map tickL1).take st.length ++ st.drop st.length = tickL st := by
   rw [List.drop_eq_nil_of_le (by omega), List.append_nil, List.take_of_length_le (by simp)]
   rfl
  rw [hfin]
  refine XK.go ?_
  exact XK.ret1 rfl rfl fun w1 t => ⟨(A, n, k), rfl, trivial, t.turns hF (by simp) (i := 1) rfl⟩
end Go.Proofs.YticjkhagldkejaaGreatDoor
/- package hard: what turns its parts. -/
namespace Go.Proofs.YticjkhagldkejaaGreatDoor
set_option linter.all false
set_option maxHeartbeats 4000000
set_option maxRecDepth 20000
open Go.RowKit
section
variable {N : Frm} {w0 w : World} {e : Env} {R : List Piece} {H : List HP} {K : Act → World → Prop} {L : HL} {s : Soc} {x : HwS}
theorem Rd.hard (i : Nat) {o : Nat} {v : Value} (hi : H[i]? = some (HardH L s x)) (hv : (hdC L s.devs.length)[o]? = some v) : Rd w0 R H L.h o v := fun w t => by
 obtain ⟨F, ⟨G, g1, g2, _⟩, h2, _⟩ := t.chunk hi
 have := (blk_ron (g1 0 _ rfl).2).at_ (j := o) hv
 rw [Nat.zero_add] at this
 exact this.2
end
variable (L : HL) (s : Soc) (x : HwS) (w : World)
theorem hdGate_m (hH : s.okH) (hLo : HLOk L s) (hok : HwOk s x) (i : Int) (on : Bool) (F : Nat → Prop) (hp : (HardH L s x).sat F w) (hF : ∀ b, F b → b < w.heap.size) :
  Calls Tryz.prog 23 #[.pointer (some ⟨L.h, 0, none⟩), .int .i64 i, .bool on] w (fun y w' => y = .returned (.int .i64 (onF s x.ck i on).1) ∧ ∃ F', (HardH L s { x with ck := (onF s x.ck i on).2 }).sat F' w' ∧ Turns w w' F F') := by
 have hdm := hH.t.nd
 refine XK.enterM (p := HardH L s x) (F := F) (vs := [.pointer (some ⟨L.h, 0, none⟩), .int .i64 i, .bool on]) Tryz.func23 rfl Tryz.ntmps23 (by simp) hp hF ?_
 refine XK.go ?_
 refine kcall (fun w1 t => hdMade_any L s x w1 (t.hardR 0 rfl hLo hok)) ?_
 refine XK.go ?_
 refine kd (does_ld1 rfl (Rd.hard 0 rfl rfl)) ?_
 refine XK.go ?_
 refine XK.take 0 1 rfl rfl ?_
 dsimp only [List.set]
 refine kcallW 0 (TreeH L.T s (onF s x.ck i on).2) (fun w1 F1 t h1 h2 h3 => clkOn_m L.T s x.ck hLo.fa hok.ck i on w1 F1 h1 h2) ?_
 dsimp only [List.set]
 refine XK.go ?_
 refine XK.give 0 1 rfl rfl ?_
 dsimp only [List.set]
 exact XK.ret1 rfl rfl fun w1 t => ⟨rfl, t.turns hF (by simp) (i := 0) rfl⟩
theorem hdUp_m (hH : s.okH) (hLo : HLOk L s) (hok : HwOk s x) (i : Int) (F : Nat → Prop) (hp : (HardH L s x).sat F w) (hF : ∀ b, F b → b < w.heap.size) :
  Calls Tryz.prog 24 #[.pointer (some ⟨L.h, 0, none⟩), .int .i64 i] w (fun y w' => y = .returned (.int .i64 (upF s x.dm i).1) ∧ ∃ F', (HardH L s { x with dm := (upF s x.dm i).2 }).sat F' w' ∧ Turns w w' F F') := by
 have hdm := hH.t.nd
 refine XK.enterM (p := HardH L s x) (F := F) (vs := [.pointer (some ⟨L.h, 0, none⟩), .int .i64 i]) Tryz.func24 rfl Tryz.ntmps24 (by simp) hp hF ?_
 refine XK.go ?_
 refine kcall (fun w1 t => hdMade_any L s x w1 (t.hardR 0 rfl hLo hok)) ?_
 refine XK.go ?_
 refine kd (does_ld1 rfl (Rd.hard 0 rfl rfl)) ?_
 refine XK.go ?_
 refine XK.take 0 2 rfl rfl ?_
 dsimp only [List.set]
 refine kcallW 0 (GridH L.G s (upF s x.dm i).2) (fun w1 F1 t h1 h2 h3 => powUp_m L.G s x.dm hH hok.dm i w1 F1 h1 h2) ?_
 dsimp only [List.set]
 refine XK.go ?_
 refine XK.give 0 2 rfl rfl ?_
 dsimp only [List.set]
 exact XK.ret1 rfl rfl fun w1 t => ⟨rfl, t.turns hF (by simp) (i := 0) rfl⟩
end Go.Proofs.YticjkhagldkejaaGreatDoor
/- A tick of a chip, in plain words; a device's ports and registers laid open. -/
namespace Go.Proofs.YticjkhagldkejaaGreatDoor
set_option linter.all false
open Go.RowKit
def denyB (deny : Int) (i : Nat) : Bool := decide (and32 (deny.fdiv (2 ^ min i 32)) 1 = 1)
def midQ (x : HwS) (deny : Int) (n : Nat) : List (FlS × QtS) := x.dv.mapIdx fun i p => if i < n then (p.1, tickQ p.2 (decide (0 < wtN x.wt i)) (denyB deny i)) else p
def deedF (k : Int) (d : Dev) (f : FlS) : FlS := if k = 115 then saveF d f else if k = 114 then restF d f else if k = 108 ∨ k = 110 then clearF d f else f
def deed1 (s : Soc) (e : Int × Nat) (i : Nat) (p : FlS × QtS) : FlS × QtS := match s.devs[i]? with
 | some d => if d.domain = (e.2 : Int) then (deedF e.1 d p.1, p.2) else p
 | none => p
def midE (s : Soc) (dv : List (FlS × QtS)) (e : Int × Nat) (n : Nat) : List (FlS × QtS) := dv.mapIdx fun i p => if i < n then deed1 s e i p else p
def dvE (s : Soc) (dv : List (FlS × QtS)) (e : Int × Nat) : List (FlS × QtS) := midE s dv e s.devs.length
def tickX (s : Soc) (x : HwS) (deny : Int) : HwS := ⟨tickC s x.ck, tickG x.dm, tickL x.ln, (evsD x.dm s.domains.length).foldl (dvE s) (midQ x deny s.devs.length), x.wt, x.posted⟩
theorem mapIdx_zero {α : Type} (l : List α) (f : Nat → α → α) : (l.mapIdx fun i p => if i < 0 then f i p else p) = l := by
 refine List.ext_getElem? fun i => ?_
 simp
theorem mapIdx_step {α : Type} {l : List α} {f : Nat → α → α} {n : Nat} {p : α} (hp : l[n]? = some p) : (l.mapIdx fun i p => if i < n then f i p else p).set n (f n p) = l.mapIdx fun i p => if i < n + 1 then f i p else p := by
 refine List.ext_getElem? fun i => ?_
 have hlt := (List.getElem?_eq_some_iff.1 hp).1
 rw [List.getElem?_set]
 by_cases he : n = i
 ·subst he
  rw [if_pos rfl, if_pos (by simpa using hlt), List.getElem?_mapIdx, hp]
  simp
 ·rw [if_neg he, List.getElem?_mapIdx, List.getElem?_mapIdx]
  cases l[i]? with
  | none => rfl
  | some q =>
   simp only [Option.map_some, Option.some.injEq]
   by_cases h : i < n
   ·rw [if_pos h, if_pos (by omega)]
   ·rw [if_neg h, if_neg (by omega)]
theorem mapIdx_at {α : Type} {l : List α} {f : Nat → α → α} {n : Nat} {p : α} (hp : l[n]? = some p) : (l.mapIdx fun i p => if i < n then f i p else p)[n]? = some p := by
 rw [List.getElem?_mapIdx, hp]
 simp
theorem dvHs_get {ds : List Dev} {ls : List (FL × Nat)} {xs : List (FlS × QtS)} {i : Nat} {d : Dev} {l : FL × Nat} {p : FlS × QtS} (hd : ds[i]? = some d) (hl : ls[i]? = some l) (hp : xs[i]? = some p) : (dvHs ds ls xs)[i]? = some (dvH1 d (l, p)) := by
 have hq : (ls.zip xs)[i]? = some (l, p) := List.getElem?_zip_eq_some.2 ⟨hl, hp⟩
 rw [dvHs, List.getElem?_zipWith, hd, hq]
theorem dvHs_set {ds : List Dev} {ls : List (FL × Nat)} {xs : List (FlS × QtS)} {i : Nat} {d : Dev} {l : FL × Nat} {p : FlS × QtS} (hd : ds[i]? = some d) (hl : ls[i]? = some l) (hp : xs[i]? = some p) (p' : FlS × QtS) : (dvHs ds ls xs).set i (dvH1 d (l, p')) = dvHs ds ls (xs.set i p') := by
 refine List.ext_getElem? fun j => ?_
 have hlt := (List.getElem?_eq_some_iff.1 (dvHs_get hd hl hp)).1
 rw [List.getElem?_set]
 by_cases he : i = j
 ·subst he
  rw [if_pos rfl, if_pos hlt]
  exact (dvHs_get hd hl (List.getElem?_set_self (List.getElem?_eq_some_iff.1 hp).1)).symm
 ·rw [if_neg he]
  simp only [dvHs, List.getElem?_zipWith, List.zip, List.getElem?_set_ne he]
theorem dvRows_get {ds : List Dev} {ls : List (FL × Nat)} {i : Nat} {d : Dev} {l : FL × Nat} (hd : ds[i]? = some d) (hl : ls[i]? = some l) : (dvRows ds ls)[i]? = some (dvC d l) := by
 rw [dvRows, List.getElem?_zipWith, hd, hl]
theorem dvRows_len {ds : List Dev} {ls : List (FL × Nat)} : ∀ r ∈ dvRows ds ls, r.length = 6 := fun r hr => by
 obtain ⟨i, hi⟩ := List.getElem?_of_mem hr
 rw [dvRows, List.getElem?_zipWith] at hi
 split at hi
 ·cases hi; rfl
 ·cases hi
theorem tickQ_ok {x : QtS} (h : QtOk x) (a b : Bool) : QtOk (tickQ x a b) := by
 unfold tickQ
 unfold QtOk at h ⊢
 split
 ·exact h
 ·split
  ·exact ⟨(by show (0 : Int) ≤ 3; omega), (by show (3 : Int) ≤ 3; omega)⟩
  ·split
   ·exact h
   ·exact ⟨(by show (0 : Int) ≤ 2; omega), (by show (2 : Int) ≤ 3; omega)⟩
theorem save1_bd {r : Rg} {p : Int × Int} (h1 : 0 ≤ p.1 ∧ p.1 < 4294967296) (h2 : 0 ≤ p.2 ∧ p.2 < 4294967296) : 0 ≤ save1 r p ∧ save1 r p < 4294967296 := by
 unfold save1
 split <;> assumption
theorem deedF_ok {d : Dev} {f : FlS} (k : Int) (hr : ∀ r ∈ d.regs, 0 ≤ r.reset ∧ r.reset ≤ 6) (h : FlOk d f) : FlOk d (deedF k d f) := by
 have hres : ∀ v ∈ d.regs.map (·.reset), 0 ≤ v ∧ v < 4294967296 := fun v hv => by
  obtain ⟨r, hr1, rfl⟩ := List.mem_map.1 hv
  have := hr r hr1
  omega
 have h1 := h.now
 have h2 := h.saved
 unfold deedF
 split
 ·refine ⟨h1, by simp [saveF]; omega, h.u.1, fun v hv => ?_⟩
  obtain ⟨i, hi⟩ := List.getElem?_of_mem hv
  simp only [saveF, List.getElem?_zipWith] at hi
  split at hi
  ·rename_i r p hr1 hp1
   cases hi
   obtain ⟨hp2, hp3⟩ := List.getElem?_zip_eq_some.1 hp1
   exact save1_bd (h.u.1 _ (List.mem_of_getElem? hp2)) (h.u.2 _ (List.mem_of_getElem? hp3))
  ·cases hi
 ·split
  ·refine ⟨by simp [restF]; omega, h2, fun v hv => ?_, h.u.2⟩
   obtain ⟨i, hi⟩ := List.getElem?_of_mem hv
   simp only [restF, List.getElem?_zipWith] at hi
   split at hi
   ·rename_i r p hr1 hp1
    cases hi
    unfold rest1
    split
    ·exact h.u.2 _ (List.mem_of_getElem? hp1)
    ·have := hr r (List.mem_of_getElem? hr1)
     omega
   ·cases hi
  ·split
   ·exact ⟨by simp [clearF], h2, hres, h.u.2⟩
   ·exact h
theorem okE {s : Soc} {x : HwS} (hH : s.okH) (hok : HwOk s x) {dv : List (FlS × QtS)} (hl : dv.length = x.dv.length) (h : ∀ (i : Nat) (d : Dev) (p : FlS × QtS), s.devs[i]? = some d → dv[i]? = some p → FlOk d p.1 ∧ QtOk p.2) : HwOk s { x with dv := dv } := ⟨hok.ck, hok.dm, hok.ln, hl.trans hok.dv, h, hok.wt⟩
theorem midQ_ok {s : Soc} {x : HwS} (hH : s.okH) (hok : HwOk s x) (deny : Int) (n : Nat) : HwOk s { x with dv := midQ x deny n } := okE hH hok (by simp [midQ]) fun i d p hd hp => by
 rw [midQ, List.getElem?_mapIdx] at hp
 cases hq : x.dv[i]? with
 | none => rw [hq] at hp; cases hp
 | some q =>
  rw [hq] at hp
  obtain ⟨h1, h2⟩ := hok.each i d q hd hq
  simp only [Option.map_some, Option.some.injEq] at hp
  subst hp
  split
  ·exact ⟨h1, tickQ_ok h2 _ _⟩
  ·exact ⟨h1, h2⟩
theorem midE_ok {s : Soc} {x : HwS} (hH : s.okH) (hok : HwOk s x) (e : Int × Nat) (n : Nat) : HwOk s { x with dv := midE s x.dv e n } := okE hH hok (by simp [midE]) fun i d p hd hp => by
 rw [midE, List.getElem?_mapIdx] at hp
 cases hq : x.dv[i]? with
 | none => rw [hq] at hp; cases hp
 | some q =>
  rw [hq] at hp
  obtain ⟨h1, h2⟩ := hok.each i d q hd hq
  simp only [Option.map_some, Option.some.injEq] at hp
  subst hp
  split
  ·unfold deed1
   rw [hd]
   dsimp only
   split
   ·exact ⟨deedF_ok _ (hH.t.devs i d hd).2.2.2.2.2.2.2.2.2.1 h1, h2⟩
   ·exact ⟨h1, h2⟩
  ·exact ⟨h1, h2⟩
theorem foldE_ok {s : Soc} (hH : s.okH) : ∀ (es : List (Int × Nat)) (x : HwS), HwOk s x → HwOk s { x with dv := es.foldl (dvE s) x.dv }
 | [], x, h => h
 | e :: es, x, h => foldE_ok hH es { x with dv := dvE s x.dv e } (midE_ok hH h e _)
theorem midE_none {s : Soc} {dv : List (FlS × QtS)} {e : Int × Nat} (h : ¬ (e.1 = 115 ∨ e.1 = 114 ∨ e.1 = 108 ∨ e.1 = 110)) : dvE s dv e = dv := by
 unfold dvE midE
 refine List.ext_getElem? fun i => ?_
 rw [List.getElem?_mapIdx]
 cases dv[i]? with
 | none => rfl
 | some p =>
  simp only [Option.map_some, Option.some.injEq]
  split
  ·unfold deed1
   split
   ·split
    ·have : deedF e.1 (by assumption) p.1 = p.1 := by
      unfold deedF
      rw [if_neg (by omega), if_neg (by omega), if_neg (by omega)]
     rw [this]
    ·rfl
   ·rfl
  ·rfl
theorem tickL_ok {s : Soc} {st : List LnS} (h : LnOk s st) : LnOk s (tickL st) := by
 refine ⟨by simp [tickL, h.len], fun x hx => ?_⟩
 obtain ⟨y, hy, rfl⟩ := List.mem_map.1 hx
 have := h.left y hy
 unfold tickL1
 split
 ·exact this
 ·split
  ·dsimp only; omega
  ·split
   ·exact this
   ·exact this
theorem tickX_ok {s : Soc} {x : HwS} (hH : s.okH) (hok : HwOk s x) (deny : Int) : HwOk s (tickX s x deny) := by
 have h1 := foldE_ok hH (evsD x.dm s.domains.length) _ (midQ_ok hH hok deny s.devs.length)
 exact ⟨tickC_ok hH hok.ck, tickG_ok hok.dm, tickL_ok hok.ln, h1.dv, h1.each, hok.wt⟩
section
variable {N : Frm} {w0 w : World} {e : Env} {R : List Piece} {H : List HP} {K : Act → World → Prop} {L : HL} {s : Soc} {x : HwS}
def hdHoles (L : HL) (s : Soc) (x : HwS) : HP := HP.many [HP.blk L.h 134 (hdC L s.devs.length), TreeH L.T s x.ck, GridH L.G s x.dm, LinesH L.R s x.ln, BusH L.B (msF s) x.wt x.posted, HP.own 141 6 (.slice L.A s.devs.length L.c) s.devs.length (dvRows s.devs L.ds).flatten, HP.emp]
def dvHole (L : HL) (s : Soc) (x : HwS) (i : Nat) : HP := HP.many ((dvHs s.devs L.ds x.dv).set i HP.emp)
theorem XK.openDv (j i : Nat) {d : Dev} {l : FL × Nat} {p : FlS × QtS} (hj : H[j]? = some (HardH L s x)) (hd : s.devs[i]? = some d) (hl : L.ds[i]? = some l) (hp : x.dv[i]? = some p)
  (k : XK N w0 K e R (HP.many [FileH l.1 d p.1, QtH l.2 p.2] :: dvHole L s x i :: H.set j (hdHoles L s x))) : XK N w0 K e R H := by
 refine XK.take j 6 hj rfl ?_
 refine XK.take 0 i rfl (dvHs_get hd hl hp) ?_
 exact k
theorem XK.closeDv (j i : Nat) {d : Dev} {l : FL × Nat} {p p' : FlS × QtS} (hj : H[j]? = some (hdHoles L s x)) (hd : s.devs[i]? = some d) (hl : L.ds[i]? = some l) (hp : x.dv[i]? = some p)
  (k : XK N w0 K e R (H.set j (HardH L s { x with dv := x.dv.set i p' }))) : XK N w0 K e R (HP.many [FileH l.1 d p'.1, QtH l.2 p'.2] :: dvHole L s x i :: H) := by
 have hlt := (List.getElem?_eq_some_iff.1 (dvHs_get hd hl hp)).1
 refine XK.give 0 i rfl (by rw [List.getElem?_set_self (by simpa using hlt)]) ?_
 dsimp only [List.set]
 refine XK.give j 6 hj rfl ?_
 rw [List.set_set, show HP.many [FileH l.1 d p'.1, QtH l.2 p'.2] = dvH1 d (l, p') from rfl, dvHs_set hd hl hp p']
 exact k
theorem XK.rows (j : Nat) (hj : H[j]? = some (HardH L s x)) (hLo : HLOk L s) (hok : HwOk s x) (hn : 0 < s.devs.length) (k : ∀ b off, L.A = some ⟨b, off, none⟩ → XK N w0 K e R H) : XK N w0 K e R H := fun a w hr st => by
 obtain ⟨b, off, hA, _⟩ := (st.hardR j hj hLo hok).rows.2 hn
 exact k b off hA a w hr st
theorem RdN.dev (j : Nat) {i b off o : Nat} {d : Dev} {l : FL × Nat} (hj : H[j]? = some (HardH L s x)) (hLo : HLOk L s) (hok : HwOk s x) (hA : L.A = some ⟨b, off, none⟩) (hd : s.devs[i]? = some d) (hl : L.ds[i]? = some l) (ho : o = off + i * 6) : RdN w0 R H b o (dvC d l) := .of fun k v hv w st => by
 obtain ⟨b', off', hA', hr⟩ := SlS.row (st.hardR j hj hLo hok).rows (rows := dvRows s.devs L.ds) (fun r hr => dvRows_len r hr) (dvRows_get hd hl) (List.getElem?_eq_some_iff.1 hd).1
 rw [hA] at hA'
 cases hA'
 subst ho
 exact (hr.2 k v hv)
end
end Go.Proofs.YticjkhagldkejaaGreatDoor
/- package hard: a tick while nothing is on its way. -/
namespace Go.Proofs.YticjkhagldkejaaGreatDoor
set_option linter.all false
set_option maxHeartbeats 4000000
set_option maxRecDepth 20000
open Go.RowKit
section
variable {P : Program} {N : Frm} {w0 : World} {e : Env} {R : List Piece} {H : List HP} {d : Nat} {ty : TypeId} {pos : String} {aft : Array Edge}
def funB (P : Program) (t : TypeId) : Bool := match P.underlying t with
 | some (.func ..) => true
 | _ => false
theorem run_eqN (w : World) (n : Nat) (t : TypeId) {f1 f2 : Array TypeId} {f3 : Bool} (hu : P.underlying t = some (.func f1 f2 f3)) : (Op.equalIn (n + 1) t .nilFunc .nilFunc).run P w = .ok true w := by simp [Op.equalIn, run_underlying hu]
theorem run_eqF (w : World) (n : Nat) (t : TypeId) {f1 f2 : Array TypeId} {f3 : Bool} (f : Fn) (fi ca : Array Value) (hu : P.underlying t = some (.func f1 f2 f3)) : (Op.equalIn (n + 1) t (.func f fi ca) .nilFunc).run P w = .ok false w := by simp [Op.equalIn, run_underlying hu]
theorem does_fN {x : Operand} {t u : TypeId} {v : Value} {b : Bool} (hx : e.ev x = some v) (hv : (v = .nilFunc ∧ b = true) ∨ (∃ f a c, v = .func f a c) ∧ b = false) (ht : funB P t = true := by kernel_rfl) : Does P N w0 e R H ⟨some d, .binOp .eql t x (.const .nilFunc) u, ty, pos, aft, none⟩ (.bool b) := does_of fun a w hr => by
 have h2 := hr.ev (show e.ev (.const .nilFunc) = some .nilFunc from rfl)
 unfold funB at ht
 split at ht
 ·rename_i f1 f2 f3 hu
  rcases hv with ⟨rfl, rfl⟩ | ⟨⟨f, fi, ca, rfl⟩, rfl⟩
  ·have h4 : (Op.equal t .nilFunc .nilFunc).run P w = .ok true w := run_eqN w 9999 t hu
   simp [execOp, hr.ev hx, h2, eqGuard, binOp, h4]
  ·have h4 : (Op.equal t (.func f fi ca) .nilFunc).run P w = .ok false w := run_eqF w 9999 t f fi ca hu
   simp [execOp, hr.ev hx, h2, eqGuard, binOp, h4]
 ·cases ht
end
def deedV (k : Int) : Value := if k = 115 then .func (.func 169) #[] #[] else if k = 114 then .func (.func 170) #[] #[] else if k = 108 ∨ k = 110 then .func (.func 142) #[] #[] else .nilFunc
theorem hdDeed_any (k : Int) (w : World) : Calls Tryz.prog 85 #[.int .u8 k] w (Rt (deedV k) w) := by
 refine XK.enter (vs := [.int .u8 k]) Tryz.func85 rfl Tryz.ntmps85 (by simp) ?_
 refine XK.go ?_
 refine XK.if_ rfl (fun h1 => ?_) (fun h1 => ?_)
 ·refine XK.go ?_
  exact XK.retE (by simp) (by rw [deedV, if_pos h1])
 refine XK.go ?_
 refine XK.if_ rfl (fun h2 => ?_) (fun h2 => ?_)
 ·refine XK.go ?_
  exact XK.retE (by simp) (by rw [deedV, if_neg h1, if_pos h2])
 refine XK.go ?_
 refine XK.if_ rfl (fun h3 => ?_) (fun h3 => ?_)
 ·refine XK.go ?_
  refine XK.if_ rfl (fun _ => ?_) (fun h => absurd h3 h)
  refine XK.go ?_
  exact XK.retE (by simp) (by rw [deedV, if_neg h1, if_neg h2, if_pos (.inl h3)])
 ·refine XK.go ?_
  refine XK.if_ rfl (fun h4 => ?_) (fun h4 => ?_)
  ·refine XK.go ?_
   exact XK.retE (by simp) (by rw [deedV, if_neg h1, if_neg h2, if_pos (.inr h4)])
  ·refine XK.go ?_
   exact XK.retE (by simp) (by rw [deedV, if_neg h1, if_neg h2, if_neg (by omega)])
theorem deed_ok {k : Int} (hk : k = 115 ∨ k = 114 ∨ k = 108 ∨ k = 110) : ∃ f : FuncId, deedV k = .func (.func f) #[] #[] ∧ callB Tryz.prog f = true ∧ ∀ (L : FL) (d : Dev) (x : FlS) (hrl : d.regs.length ≤ 100) (hok : FlOk d x) (w : World) (F : Nat → Prop) (hp : (FileH L d x).sat F w) (hF : ∀ b, F b → b < w.heap.size),
  Calls Tryz.prog f #[.pointer (some ⟨L.f, 0, none⟩)] w (fun y w' => y = .returned (.tuple #[]) ∧ ∃ F', (FileH L d (deedF k d x)).sat F' w' ∧ Turns w w' F F') := by
 rcases hk with rfl | rfl | rfl | rfl
 ·exact ⟨_, rfl, (by kernel_rfl), regsSave_m⟩
 ·exact ⟨_, rfl, (by kernel_rfl), regsRestore_m⟩
 ·exact ⟨_, rfl, (by kernel_rfl), regsClear_m⟩
 ·exact ⟨_, rfl, (by kernel_rfl), regsClear_m⟩
theorem busTake0_any (L : BL) (ms : List Int) (ws : List (Option Txn)) (posted : Int) (i : Nat) (hi : i < ms.length) (h0 : wtN ws i = 0) (w : World) (hR : BusR w L ms ws posted) :
  Calls Tryz.prog 163 #[.pointer (some ⟨L.b, 0, none⟩), .int .i64 (i : Int)] w (Rt (.tuple #[.agg #[.int .i64 0, .bool false, .int .i64 0, .int .u32 0], .bool false]) w) := by
 have k1 := hR.r0.at_ (j := 1) rfl
 obtain ⟨A, c, k2⟩ := hR.wt i hi
 rw [h0] at k2
 have hin : inB ms.length (i : Int) = true := decide_eq_true (by omega)
 refine XK.enter (vs := [.pointer (some ⟨L.b, 0, none⟩), .int .i64 (i : Int)]) Tryz.func163 rfl Tryz.ntmps163 (by simp) ?_
 refine XK.go ?_
 refine xk_alloc (cs := [.int .i64 0, .bool false, .int .i64 0, .int .u32 0]) (zeroB_of (by kernel_rfl)) (by decide) fun g1 => ?_
 refine XK.go ?_
 refine kcall (fun w1 t => busHas_any L ms ws posted i w1 (hR.below (t.below (by simp)))) ?_
 rw [hin]
 refine XK.go ?_
 refine kd (dat i i) ?_
 refine XK.go ?_
 refine xk_buildS (zs := [.int .i64 0, .bool false, .int .i64 0, .int .u32 0]) (L := [(0, 1), (1, 1), (2, 1), (3, 1)]) (zeroB_of (by kernel_rfl)) (by kernel_rfl) rfl (by simp [fillL, setN, Value.cells]; rfl) (by decide) ?_
 refine XK.go ?_
 exact XK.retCT (vs := [.int .i64 0, .bool false, .int .i64 0, .int .u32 0]) rfl (by kernel_rfl) rfl rfl (RdN.whole 0 rfl) rfl fun w1 t => ⟨rfl, t.below (by simp)⟩
theorem hdAnswer0_any (L : HL) (s : Soc) (x : HwS) (i : Nat) (hi : i < s.devs.length) (h0 : wtN x.wt i = 0) (w : World) (hR : HardR w L s x) :
  Calls Tryz.prog 80 #[.pointer (some ⟨L.h, 0, none⟩), .int .i64 (i : Int)] w (Rt (.tuple #[.agg #[.int .i64 0, .int .i64 0, .bool false, .int .u32 0], .bool false]) w) := by
 have k3 := hR.r0.at_ (j := 3) rfl
 refine XK.enter (vs := [.pointer (some ⟨L.h, 0, none⟩), .int .i64 (i : Int)]) Tryz.func80 rfl Tryz.ntmps80 (by simp) ?_
 refine XK.go ?_
 refine xk_alloc (cs := [.int .i64 0, .int .i64 0, .bool false, .int .u32 0]) (zeroB_of (by kernel_rfl)) (by decide) fun g1 => ?_
 refine XK.go ?_
 refine kcall (fun w1 t => busTake0_any L.B (msF s) x.wt x.posted i (by rw [msF_len]; exact hi) h0 w1 (hR.bus.below (t.below (by simp)))) ?_
 refine XK.go ?_
 refine xk_alloc (cs := [.int .i64 0, .bool false, .int .i64 0, .int .u32 0]) (zeroB_of (by kernel_rfl)) (by decide) fun g2 => ?_
 refine XK.go ?_
 refine xk_buildS (zs := [.int .i64 0, .int .i64 0, .bool false, .int .u32 0]) (L := [(0, 1), (1, 1), (2, 1), (3, 1)]) (zeroB_of (by kernel_rfl)) (by kernel_rfl) rfl (by simp [fillL, setN, Value.cells]; rfl) (by decide) ?_
 refine XK.go ?_
 exact XK.retCT (vs := [.int .i64 0, .int .i64 0, .bool false, .int .u32 0]) rfl (by kernel_rfl) rfl rfl (RdN.whole 1 rfl) rfl fun w1 t => ⟨rfl, t.below (by simp)⟩
end Go.Proofs.YticjkhagldkejaaGreatDoor
/- package hard: a tick while nothing is on its way, walked. -/
namespace Go.Proofs.YticjkhagldkejaaGreatDoor
set_option linter.all false
set_option maxHeartbeats 4000000
set_option maxRecDepth 20000
open Go.RowKit
theorem RdN.ev {w0 : World} {R : List Piece} {H : List HP} {q : Piece} {A : Option Addr} {es : List (Int × Nat)} {j : Nat} {p : Int × Nat} (hq : q ∈ R) (hs : SlS q 2 A es.length (es.flatMap evC)) (hj : es[j]? = some p) : ∃ b off, A = some ⟨b, off, none⟩ ∧ RdN w0 R H b (off + j * 2) (evC p) := by
 have hlt := (List.getElem?_eq_some_iff.1 hj).1
 obtain ⟨b, off, hA, hz, hc⟩ := SlS.rowP (rows := es.map evC) (sz := 2) (k := j) (r := evC p) (n := es.length) (by rw [← List.flatMap_def]; exact hs) (fun r hr => by
  obtain ⟨x, _, rfl⟩ := List.mem_map.1 hr
  rfl) (by rw [List.getElem?_map, hj]; rfl) hlt
 exact ⟨b, off, hA, .of fun k v hv => Rd.ro hq hz (hc k v hv)⟩
theorem hdTick_m (L : HL) (s : Soc) (x : HwS) (w : World) (hH : s.okH) (hLo : HLOk L s) (hok : HwOk s x) (deny : Int) (hd : 0 ≤ deny ∧ deny < 4294967296) (hwt : ∀ i, wtN x.wt i = 0) (F : Nat → Prop) (hp : (HardH L s x).sat F w) (hF : ∀ b, F b → b < w.heap.size) :
  Calls Tryz.prog 25 #[.pointer (some ⟨L.h, 0, none⟩), .int .u32 deny] w (fun y w' => y = .returned (.slice none 0 0) ∧ ∃ F', (HardH L s (tickX s x deny)).sat F' w' ∧ Turns w w' F F') := by
 have hnv := hH.t.nv
 have hnd := hH.t.nd
 have hdl := hok.dv
 have hls := hLo.ds
 refine XK.enterM (p := HardH L s x) (F := F) (vs := [.pointer (some ⟨L.h, 0, none⟩), .int .u32 deny]) Tryz.func25 rfl Tryz.ntmps25 (by simp) hp hF ?_
 generalize hR0 : (⟨w, fun b => b < w.heap.size ∧ ¬ F b⟩ : Piece) = R0
 refine XK.go ?_
 refine kcall (fun w1 t => hdMade_any L s x w1 (t.hardR 0 rfl hLo hok)) ?_
 refine XK.go ?_
 refine kd (does_ld1 rfl (Rd.hard 0 rfl rfl)) ?_
 refine XK.go ?_
 refine XK.envS [(24, .int .i64 0), (23, .int .i64 s.devs.length), (5, .slice none 0 0), (0, .pointer (some ⟨L.h, 0, none⟩)), (1, .int .u32 deny)] ?_
 refine XK.loop (fun m e R H => ∃ i : Nat, i ≤ s.devs.length ∧ m = s.devs.length - i ∧ e = [(24, .int .i64 i), (23, .int .i64 s.devs.length), (5, .slice none 0 0), (0, .pointer (some ⟨L.h, 0, none⟩)), (1, .int .u32 deny)] ∧ R = [R0] ∧ H = [HardH L s x]) s.devs.length ⟨0, by omega, rfl, rfl, rfl, rfl⟩ fun m e R H hI => ?_
 obtain ⟨i, hi, rfl, rfl, rfl, rfl⟩ := hI
 refine XK.go ?_
 refine XK.if_ rfl (fun hlt => ?_) (fun hge => ?_)
 ·have hlt : i < s.devs.length := by omega
  refine XK.go ?_
  refine kcall (fun w1 t => hdAnswer0_any L s x i hlt (hwt i) w1 (t.hardR 0 rfl hLo hok)) ?_
  refine XK.go ?_
  refine xk_alloc (cs := [.int .i64 0, .int .i64 0, .bool false, .int .u32 0]) (zeroB_of (by kernel_rfl)) (by decide) fun g1 => ?_
  refine XK.go ?_
  refine XK.weak [1] rfl (by decide) (fun _ h => h) ?_
  refine XK.envS [(24, .int .i64 (i + 1 : Nat)), (23, .int .i64 s.devs.length), (5, .slice none 0 0), (0, .pointer (some ⟨L.h, 0, none⟩)), (1, .int .u32 deny)] ?_
  exact XK.round (s.devs.length - (i + 1)) (by omega) ⟨i + 1, hlt, rfl, rfl, rfl, rfl⟩
 obtain rfl : i = s.devs.length := by omega
 refine XK.go ?_
 refine kd (does_ld1 rfl (Rd.hard 0 rfl rfl)) ?_
 refine XK.go ?_
 have hq0 : midQ x deny 0 = x.dv := mapIdx_zero _ _
 refine XK.envS [(44, .int .i64 0), (43, .int .i64 s.devs.length), (42, .slice L.A s.devs.length L.c), (5, .slice none 0 0), (0, .pointer (some ⟨L.h, 0, none⟩)), (1, .int .u32 deny)] ?_
 refine XK.loop (fun m e R H => ∃ i : Nat, i ≤ s.devs.length ∧ m = s.devs.length - i ∧ e = [(44, .int .i64 i), (43, .int .i64 s.devs.length), (42, .slice L.A s.devs.length L.c), (5, .slice none 0 0), (0, .pointer (some ⟨L.h, 0, none⟩)), (1, .int .u32 deny)] ∧ R = [R0] ∧ H = [HardH L s { x with dv := midQ x deny i }]) s.devs.length ⟨0, by omega, rfl, rfl, rfl, by rw [hq0]⟩ fun m e R H hI => ?_
 obtain ⟨i, hi, rfl, rfl, rfl, rfl⟩ := hI
 have hokm := midQ_ok hH hok deny i
 refine XK.go ?_
 refine XK.if_ rfl (fun hlt => ?_) (fun hge => ?_)
 ·have hlt : i < s.devs.length := by omega
  obtain ⟨d, hd1⟩ := get_some hlt
  obtain ⟨l, hl1⟩ := get_some (l := L.ds) (i := i) (by omega)
  obtain ⟨p, hp1⟩ := get_some (l := x.dv) (i := i) (by omega)
  have hpm : (midQ x deny i)[i]? = some p := mapIdx_at hp1
  have hstep : (midQ x deny i).set i (p.1, tickQ p.2 (decide (0 < wtN x.wt i)) (denyB deny i)) = midQ x deny (i + 1) := mapIdx_step (f := fun i p => (p.1, tickQ p.2 (decide (0 < wtN x.wt i)) (denyB deny i))) hp1
  have hw0 : decide (0 < wtN x.wt i) = false := by rw [hwt i]; rfl
  rw [hw0] at hstep
  refine XK.rows 0 rfl hLo hokm (by omega) fun b off hA => ?_
  refine XK.go ?_
  refine kd (dat i (off + i * 6) (hx := by rw [← hA]; rfl)) ?_
  refine kd (does_ldA rfl (RdN.dev 0 rfl hLo hokm hA hd1 hl1 rfl)) ?_
  refine xk_alloc (cs := [.int .i64 0, .int .i64 0, .int .i64 0, .int .u32 0, .pointer none, .pointer none]) (zeroB_of (by kernel_rfl)) (by decide) fun g1 => ?_
  refine XK.go ?_
  refine XK.drawB [0, 1, 3, 4, 5, 11, 12, 13] ?_
  refine XB.mv 2 ?_
  refine XB.mv 6 ?_
  refine XB.mv 9 ?_
  refine XB.mv 10 ?_
  refine XB.q 0 ?_
  refine XB.q 1 ?_
  refine XB.q 3 ?_
  refine XB.q 4 ?_
  refine XB.q 5 ?_ (hdo := does_ld1 rfl (Rd.hard 1 rfl rfl))
  refine XB.q 11 ?_ (hdo := does_shr rfl rfl (c := deny.fdiv (2 ^ min i 32)) (by omega) rfl)
  refine XB.q 12 ?_ (hdo := does_bits (c := and32 (deny.fdiv (2 ^ min i 32)) 1) rfl rfl (fun _ => rfl) (by simp))
  refine XB.q 13 ?_
  refine XB.next 7 rfl (by kernel_rfl) ?_
  refine kcall (fun w1 t => busWaiting_any L.B (msF s) x.wt x.posted i (by rw [msF_len]; exact hlt) w1 (t.hardR 1 rfl hLo hokm).bus) ?_
  refine XB.bk ?_
  refine XB.next 8 rfl (by kernel_rfl) ?_
  refine kdo ?_
  refine XB.bk ?_
  refine XB.next 14 rfl (by kernel_rfl) ?_
  refine XK.openDv 1 i rfl hd1 hl1 hpm ?_
  dsimp only [List.set]
  refine XK.take 0 1 rfl rfl ?_
  dsimp only [List.set]
  refine kcallW 0 (QtH l.2 (tickQ p.2 (decide ((wtN x.wt i : Int) > 0)) (denyB deny i))) (fun w1 F1 t h1 h2 h3 => qtTick_m _ _ h1 h2) ?_
  dsimp only [List.set]
  refine XK.give 0 1 rfl rfl ?_
  dsimp only [List.set]
  refine XK.closeDv 1 i rfl hd1 hl1 hpm (p' := (p.1, tickQ p.2 (decide ((wtN x.wt i : Int) > 0)) (denyB deny i))) ?_
  dsimp only [List.set]
  have hw1 : decide ((wtN x.wt i : Int) > 0) = false := by rw [hwt i]; rfl
  rw [hw1, hstep]
  refine XB.bt ?_
  refine XB.done (by kernel_rfl) ?_
  refine XK.go ?_
  refine XK.weak [1] rfl (by decide) (fun _ h => h) ?_
  refine XK.envS [(44, .int .i64 (i + 1 : Nat)), (43, .int .i64 s.devs.length), (42, .slice L.A s.devs.length L.c), (5, .slice none 0 0), (0, .pointer (some ⟨L.h, 0, none⟩)), (1, .int .u32 deny)] ?_
  exact XK.round (s.devs.length - (i + 1)) (by omega) ⟨i + 1, hlt, rfl, rfl, rfl, rfl⟩
 obtain rfl : i = s.devs.length := by omega
 have hokq := midQ_ok hH hok deny s.devs.length
 generalize hdv : midQ x deny s.devs.length = dv1 at hokq ⊢
 refine XK.go ?_
 refine kd (does_ld1 rfl (Rd.hard 0 rfl rfl)) ?_
 refine XK.go ?_
 refine XK.take 0 1 rfl rfl ?_
 dsimp only [List.set]
 refine kcallW 0 (TreeH L.T s (tickC s x.ck)) (fun w1 F1 t h1 h2 h3 => clkTick_m L.T s x.ck hH hLo.fa hok.ck w1 F1 h1 h2) ?_
 dsimp only [List.set]
 refine XK.give 0 1 rfl rfl ?_
 dsimp only [List.set]
 change XK _ _ _ _ _ [HardH L s { x with ck := tickC s x.ck, dv := dv1 }]
 refine XK.go ?_
 refine kd (does_ld1 rfl (Rd.hard 0 rfl rfl)) ?_
 refine XK.go ?_
 refine XK.take 0 2 rfl rfl ?_
 dsimp only [List.set]
 refine xk_callMV (α := Option Addr × Nat) 0 (f := 84) (fi := []) (ca := []) (fun a => .slice a.1 (evsD x.dm s.domains.length).length a.2) (fun a => HP.many [GridH L.G s (tickG x.dm), HP.own 166 2 (.slice a.1 (evsD x.dm s.domains.length).length a.2) (evsD x.dm s.domains.length).length ((evsD x.dm s.domains.length).flatMap evC)]) (fun _ => True) (by kernel_rfl) rfl rfl rfl (by decide) (fun w1 F1 t h1 h2 h3 => powTick_m L.G s x.dm hok.dm (by omega) w1 F1 h1 h2) ?_
 rintro ⟨Ae, ce⟩ _
 dsimp only [List.set]
 refine XK.take 0 0 rfl rfl ?_
 dsimp only [List.set]
 refine XK.give 1 2 rfl rfl ?_
 dsimp only [List.set]
 refine XK.take 0 1 rfl rfl ?_
 dsimp only [List.set]
 refine XK.still [] [0] [2] (by simp) rfl (by decide) (by decide) fun q hq _ hfr => ?_
 obtain ⟨F2, sf2, zf2⟩ := hq 0 _ (by simp) rfl
 have hev : SlS q 2 Ae (evsD x.dm s.domains.length).length ((evsD x.dm s.domains.length).flatMap evC) := SlS.own ⟨F2, sf2, zf2⟩
 have hok2 : HwOk s { x with ck := tickC s x.ck, dm := tickG x.dm, dv := dv1 } := ⟨tickC_ok hH hok.ck, tickG_ok hok.dm, hok.ln, hokq.dv, hokq.each, hok.wt⟩
 have hel : (evsD x.dm s.domains.length).length ≤ 1000 := Nat.le_trans (evsD_len x.dm s.domains.length) (by omega)
 generalize hes : evsD x.dm s.domains.length = es at hev hel ⊢
 change XK _ _ _ _ _ [HardH L s { x with ck := tickC s x.ck, dm := tickG x.dm, dv := dv1 }]
 refine XK.go ?_
 refine XK.envS [(76, .int .i64 0), (75, .int .i64 es.length), (74, .slice Ae es.length ce), (5, .slice none 0 0), (0, .pointer (some ⟨L.h, 0, none⟩))] ?_
 refine XK.loop (fun m e R H => ∃ j : Nat, j ≤ es.length ∧ m = es.length - j ∧ e = [(76, .int .i64 j), (75, .int .i64 es.length), (74, .slice Ae es.length ce), (5, .slice none 0 0), (0, .pointer (some ⟨L.h, 0, none⟩))] ∧ R = [q, R0] ∧ H = [HardH L s { x with ck := tickC s x.ck, dm := tickG x.dm, dv := (es.take j).foldl (dvE s) dv1 }]) es.length ⟨0, by omega, rfl, rfl, rfl, rfl⟩ fun m e R H hI => ?_
 obtain ⟨j, hj, rfl, rfl, rfl, rfl⟩ := hI
 have hok3 : HwOk s { x with ck := tickC s x.ck, dm := tickG x.dm, dv := (es.take j).foldl (dvE s) dv1 } := foldE_ok hH (es.take j) _ hok2
 refine XK.go ?_
 refine XK.if_ rfl (fun hlt => ?_) (fun hge => ?_)
 ·have hlt : j < es.length := by omega
  obtain ⟨p, hp1⟩ := get_some hlt
  have hsucc : (es.take (j + 1)).foldl (dvE s) dv1 = dvE s ((es.take j).foldl (dvE s) dv1) p := by
   rw [List.take_add_one, hp1, List.foldl_append]
   rfl
  generalize hx3 : ({ x with ck := tickC s x.ck, dm := tickG x.dm, dv := (es.take j).foldl (dvE s) dv1 } : HwS) = x3 at hok3
  have hx4 : ({ x with ck := tickC s x.ck, dm := tickG x.dm, dv := (es.take (j + 1)).foldl (dvE s) dv1 } : HwS) = { x3 with dv := dvE s x3.dv p } := by rw [hsucc, ← hx3]
  have hdl3 := hok3.dv
  obtain ⟨be, offe, hAe, hrd⟩ := RdN.ev (w0 := w) (R := [q, R0]) (H := [HardH L s x3]) (by simp) hev hp1
  obtain ⟨kn, dm⟩ := p
  refine XK.go ?_
  refine kd (dat j (offe + j * 2) (hx := by rw [← hAe]; rfl)) ?_
  refine kd (does_ldA rfl hrd) ?_
  refine xk_alloc (cs := [.int .u8 0, .int .i64 0]) (zeroB_of (by kernel_rfl)) (by decide) fun g1 => ?_
  refine XK.go ?_
  refine kcall (fun w1 t => hdDeed_any kn w1) ?_
  by_cases hk : kn = 115 ∨ kn = 114 ∨ kn = 108 ∨ kn = 110
  ·obtain ⟨f, hdv2, hcb, hcall⟩ := deed_ok hk
   rw [hdv2]
   refine XK.go ?_
   refine kd (does_fN rfl (.inr ⟨⟨_, _, _, rfl⟩, rfl⟩)) ?_
   refine XK.go ?_
   refine kd (does_ld1 rfl (Rd.hard 1 rfl rfl)) ?_
   refine XK.go ?_
   have hm0 : midE s x3.dv (kn, dm) 0 = x3.dv := mapIdx_zero _ _
   refine XK.envS [(90, .int .i64 0), (89, .int .i64 s.devs.length), (88, .slice L.A s.devs.length L.c), (13, .func (.func f) #[] #[]), (12, .pointer (some ⟨g1, 0, none⟩)), (76, .int .i64 j), (75, .int .i64 es.length), (74, .slice Ae es.length ce), (5, .slice none 0 0), (0, .pointer (some ⟨L.h, 0, none⟩))] ?_
   refine XK.loop (fun m e R H => ∃ i : Nat, i ≤ s.devs.length ∧ m = s.devs.length - i ∧ e = [(90, .int .i64 i), (89, .int .i64 s.devs.length), (88, .slice L.A s.devs.length L.c), (13, .func (.func f) #[] #[]), (12, .pointer (some ⟨g1, 0, none⟩)), (76, .int .i64 j), (75, .int .i64 es.length), (74, .slice Ae es.length ce), (5, .slice none 0 0), (0, .pointer (some ⟨L.h, 0, none⟩))] ∧ R = [q, R0] ∧ H = [HP.blk g1 166 [.int .u8 kn, .int .i64 (dm : Int)], HardH L s { x3 with dv := midE s x3.dv (kn, dm) i }]) s.devs.length ⟨0, by omega, rfl, rfl, rfl, by rw [hm0]; rfl⟩ fun m e R H hI => ?_
   obtain ⟨i, hi, rfl, rfl, rfl, rfl⟩ := hI
   have hokm := midE_ok hH hok3 (kn, dm) i
   refine XK.go ?_
   refine XK.if_ rfl (fun hlt => ?_) (fun hge => ?_)
   ·have hlt : i < s.devs.length := by omega
    obtain ⟨d, hd1⟩ := get_some hlt
    obtain ⟨l, hl1⟩ := get_some (l := L.ds) (i := i) (by omega)
    obtain ⟨p, hp1⟩ := get_some (l := x3.dv) (i := i) (by omega)
    have hpm : (midE s x3.dv (kn, dm) i)[i]? = some p := mapIdx_at hp1
    have hstep : (midE s x3.dv (kn, dm) i).set i (deed1 s (kn, dm) i p) = midE s x3.dv (kn, dm) (i + 1) := mapIdx_step (f := deed1 s (kn, dm)) hp1
    have hfo := (hokm.each i d p hd1 hpm).1
    refine XK.rows 1 rfl hLo hokm (by omega) fun b off hA => ?_
    refine XK.go ?_
    refine kd (dat i (off + i * 6) (hx := by rw [← hA]; rfl)) ?_
    refine kd (does_ldA rfl (RdN.dev 1 rfl hLo hokm hA hd1 hl1 rfl)) ?_
    refine xk_alloc (cs := [.int .i64 0, .int .i64 0, .int .i64 0, .int .u32 0, .pointer none, .pointer none]) (zeroB_of (by kernel_rfl)) (by decide) fun g2 => ?_
    refine XK.go ?_
    refine XK.if_ rfl (fun he => ?_) (fun he => ?_)
    ·have hd3 : deed1 s (kn, dm) i p = (deedF kn d p.1, p.2) := by
      unfold deed1
      rw [hd1]
      exact if_pos he
     refine XK.go ?_
     refine XK.openDv 2 i rfl hd1 hl1 hpm ?_
     dsimp only [List.set]
     refine XK.take 0 0 rfl rfl ?_
     dsimp only [List.set]
     refine kcallWC 0 (fi := []) (ca := []) (FileH l.1 d (deedF kn d p.1)) (fun w1 F1 t h1 h2 h3 => by simpa using hcall l.1 d p.1 (by have := (hH.t.devs i d hd1).2.2.2.2.2.2.2.2.1; omega) hfo w1 F1 h1 h2) ?_ (hf := hcb)
     dsimp only [List.set]
     refine XK.give 0 0 rfl rfl ?_
     dsimp only [List.set]
     refine XK.closeDv 2 i rfl hd1 hl1 hpm (p' := (deedF kn d p.1, p.2)) ?_
     dsimp only [List.set]
     rw [← hd3, hstep]
     refine XK.go ?_
     refine XK.weak [1, 2] rfl (by decide) (fun _ h => h) ?_
     refine XK.envS [(90, .int .i64 (i + 1 : Nat)), (89, .int .i64 s.devs.length), (88, .slice L.A s.devs.length L.c), (13, .func (.func f) #[] #[]), (12, .pointer (some ⟨g1, 0, none⟩)), (76, .int .i64 j), (75, .int .i64 es.length), (74, .slice Ae es.length ce), (5, .slice none 0 0), (0, .pointer (some ⟨L.h, 0, none⟩))] ?_
     exact XK.round (s.devs.length - (i + 1)) (by omega) ⟨i + 1, hlt, rfl, rfl, rfl, rfl⟩
    ·have hd3 : deed1 s (kn, dm) i p = p := by
      unfold deed1
      rw [hd1]
      exact if_neg he
     rw [hd3, set_same hpm] at hstep
     rw [hstep]
     refine XK.go ?_
     refine XK.weak [1, 2] rfl (by decide) (fun _ h => h) ?_
     refine XK.envS [(90, .int .i64 (i + 1 : Nat)), (89, .int .i64 s.devs.length), (88, .slice L.A s.devs.length L.c), (13, .func (.func f) #[] #[]), (12, .pointer (some ⟨g1, 0, none⟩)), (76, .int .i64 j), (75, .int .i64 es.length), (74, .slice Ae es.length ce), (5, .slice none 0 0), (0, .pointer (some ⟨L.h, 0, none⟩))] ?_
     exact XK.round (s.devs.length - (i + 1)) (by omega) ⟨i + 1, hlt, rfl, rfl, rfl, rfl⟩
   obtain rfl : i = s.devs.length := by omega
   refine XK.go ?_
   refine XK.weak [1] rfl (by decide) (fun _ h => h) ?_
   refine XK.envS [(76, .int .i64 (j + 1 : Nat)), (75, .int .i64 es.length), (74, .slice Ae es.length ce), (5, .slice none 0 0), (0, .pointer (some ⟨L.h, 0, none⟩))] ?_
   exact XK.round (es.length - (j + 1)) (by omega) ⟨j + 1, by omega, rfl, rfl, rfl, by rw [hx4]; rfl⟩
  ·have hdv2 : deedV kn = .nilFunc := by
    rw [deedV, if_neg (by omega), if_neg (by omega), if_neg (by omega)]
   rw [hdv2]
   refine XK.go ?_
   refine kd (does_fN rfl (.inl ⟨rfl, rfl⟩)) ?_
   refine XK.go ?_
   refine XK.weak [1] rfl (by decide) (fun _ h => h) ?_
   refine XK.envS [(76, .int .i64 (j + 1 : Nat)), (75, .int .i64 es.length), (74, .slice Ae es.length ce), (5, .slice none 0 0), (0, .pointer (some ⟨L.h, 0, none⟩))] ?_
   exact XK.round (es.length - (j + 1)) (by omega) ⟨j + 1, by omega, rfl, rfl, rfl, by rw [hx4, midE_none hk, ← hx3]⟩
 obtain rfl : j = es.length := by omega
 rw [List.take_length]
 refine XK.go ?_
 refine kd (does_ld1 rfl (Rd.hard 0 rfl rfl)) ?_
 refine XK.go ?_
 refine XK.take 0 3 rfl rfl ?_
 dsimp only [List.set]
 refine xk_callMV (α := Option Addr × Nat × Nat) 0 (f := 86) (fi := []) (ca := []) (fun a => .slice a.1 a.2.1 a.2.2) (fun _ => LinesH L.R s (tickL x.ln)) (fun _ => True) (by kernel_rfl) rfl rfl rfl (by decide) (fun w1 F1 t h1 h2 h3 => rstTick_m L.R s x.ln hH hok.ln w1 F1 h1 h2) ?_
 rintro _ _
 dsimp only [List.set]
 refine XK.give 0 3 rfl rfl ?_
 dsimp only [List.set]
 change XK _ _ _ _ _ [HardH L s { x with ck := tickC s x.ck, dm := tickG x.dm, ln := tickL x.ln, dv := es.foldl (dvE s) dv1 }]
 have hfin : ({ x with ck := tickC s x.ck, dm := tickG x.dm, ln := tickL x.ln, dv := es.foldl (dvE s) dv1 } : HwS) = tickX s x deny := by rw [tickX, hdv, hes]
 rw [hfin]
 refine XK.go ?_
 subst hR0
 exact XK.ret1 rfl rfl fun w1 t => ⟨rfl, t.turns hF (by simp) (i := 0) rfl⟩
end Go.Proofs.YticjkhagldkejaaGreatDoor
/- What is asked of one agent, and answered at once. -/
namespace Go.Proofs.YticjkhagldkejaaGreatDoor
set_option linter.all false
set_option maxHeartbeats 4000000
set_option maxRecDepth 20000
open Go.RowKit
def askH (f : Nat) (hL : HL) (s : Soc) (z : FmS) (x : HwS) (a : List Int) (c : AC) : HP := HP.many [MachH f hL s z x, HP.pic (BxP c a) (BxP.le (a := c) (l := a))]
theorem asked_m (f : Nat) (hL : HL) (s : Soc) (x : HwS) (l p m i : Int) (a : List Int) (hH : s.okH) (hLo : HLOk hL s) (hok : HwOk s x) (hl : l = 0 ∨ l = 1) (hh : AskHd m p 1) (h0 : 0 ≤ i) (h1 : i < 4294967296) (hi : i < (numF s p : Int)) (ha : answF s x [(packZ m 0 p 0).1, i] 0 = a) (w : World) (F : Nat → Prop) (hp : (MachH f hL s (zA s l) x).sat F w) (hF : ∀ b, F b → b < w.heap.size) :
  Calls Tryz.prog 26 #[.pointer (some ⟨f, 0, none⟩), .int .i64 p, .int .i64 m, .int .u32 i] w (fun y w' => ∃ c : AC, y = .returned (.slice c.1 a.length c.2) ∧ True ∧ ∃ F', (askH f hL s (zA s 0) x a c).sat F' w' ∧ Turns w w' F F') := by
 have hdec := fun wt g => ask_dec (s := s) (x := zeroW s) (y := zeroW s) (wt := wt) (g := g) hh hi
 have hrep := ask_reply hh h0 h1
 have hpk := hh.pk
 have hu : U32s [(packZ m 0 p 0).1, i] := by
  intro y hy
  simp at hy
  rcases hy with rfl | rfl
  ·exact pack_bd _ _ _ _
  ·omega
 refine XK.enterM (p := MachH f hL s (zA s l) x) (F := F) (vs := [.pointer (some ⟨f, 0, none⟩), .int .i64 p, .int .i64 m, .int .u32 i]) Tryz.func26 rfl Tryz.ntmps26 (by simp) hp hF ?_
 refine XK.go ?_
 refine xk_buildS (zs := [.int .i64 0, .int .i64 0, .int .i64 0, .int .i64 0]) (L := [(0, 1), (1, 1), (2, 1), (3, 1)]) (zeroB_of (by kernel_rfl)) (by kernel_rfl) rfl (by simp [fillL, setN, Value.cells]; rfl) (by decide) ?_
 refine XK.go ?_
 refine xk_slice (el := 44) (sz := 1) (zs := [.int .u32 0]) (by kernel_rfl) (zeroB_of (by kernel_rfl)) (by kernel_rfl) rfl (by decide) (by decide) rfl (by simp [fillL, setN, Value.cells, List.range_succ, List.set]; rfl) (by decide) fun g3 => ?_
 refine xk_call [] (f := 18) (fi := []) (ca := []) (by kernel_rfl) rfl rfl (by decide) (by simp) (CmdOk ((packZ m 0 p 0).1 :: [i])) (fun w1 t => command_any m 0 p 0 (some ⟨g3, 0, none⟩) 1 1 [i] w1 (t.slS (i := 0) rfl rfl) rfl (by omega) hpk) ?_
 rintro _ w1 qm ⟨Al, cl, rfl, hl3⟩ hf _ _
 have hl3 := hl3.le hf
 clear hf
 generalize hms : [(packZ m 0 p 0).1, i] = ms at hdec hrep hu hl3 ha
 have hml : ms.length ≤ 1000000 := by rw [← hms]; simp
 have htk := zQ_take (s := s) (x := x) (m := ms) (b := 0) hl (by omega) (hdec _ _)
 rw [ha] at htk
 refine XK.weak [1] rfl (by decide) (fun _ h => h) ?_
 refine XK.take 0 0 rfl rfl ?_
 dsimp only [List.set]
 refine XK.go ?_
 refine kcallW 0 (FirmX f hL.h s (zQ s l 0 ms)) (fun w1 F1 t h1 h2 h3 => by
  have := fmSend_m f hL.h s (zA s l) 0 Al _ cl ms w1 F1 h1 h2 (hl3.le (h3 _ (by simp))) rfl hml
  rw [show sendF (zA s l) 0 ms = (0, zQ s l 0 ms) from zQ_send (b := 0) (by omega)] at this
  exact this) ?_
 dsimp only [List.set]
 refine XK.go ?_
 refine XK.give 0 0 rfl rfl ?_
 dsimp only [List.set]
 refine kcallW 0 (MachH f hL s (putBox (zA s 0) 0 2 a) x) (fun w1 F1 t h1 h2 h3 => by
  have := fmStep_ask f hL s (zQ s l 0 ms) x hH hLo hok (zQ_ok hH.t hl hu hml) (fun b hb _ _ => by
   rw [zQ_next hl (by omega)] at hb
   cases hb
   rw [zQ_box (by omega)]
   exact hrep) (by rw [zQ_x.2.2]; decide) (by rw [htk]) w1 F1 h1 h2
  rw [htk] at this
  exact this) ?_
 dsimp only [List.set]
 refine XK.go ?_
 refine XK.take 0 0 rfl rfl ?_
 dsimp only [List.set]
 refine xk_callMV (α := AC) 0 (f := 21) (fi := []) (ca := []) (fun c => .tuple #[.slice c.1 a.length c.2, .bool true]) (fun c => readH f hL.h s (zA s 0) a c) (fun _ => True) (by kernel_rfl) rfl rfl rfl (by decide) (fun w1 F1 t h1 h2 h3 => by
  have := fmRead_m f hL.h s (putBox (zA s 0) 0 2 a) 0 w1 F1 h1 h2
  rw [show readW (putBox (zA s 0) 0 2 a) 0 = some a from zQ_readW (b := 0) (by omega), show readZ (putBox (zA s 0) 0 2 a) 0 = zA s 0 from zQ_readZ (b := 0) (by omega)] at this
  exact this) ?_
 rintro ⟨Ar, cr⟩ _
 dsimp only [List.set]
 refine XK.take 0 1 rfl rfl ?_
 dsimp only [List.set]
 refine XK.take 1 0 rfl rfl ?_
 dsimp only [List.set]
 refine XK.give 2 0 rfl rfl ?_
 dsimp only [List.set]
 refine XK.weak [2, 0] rfl (by decide) (fun _ h => h) ?_
 refine XK.pair ?_
 refine XK.go ?_
 exact XK.ret1 rfl rfl fun w1 t => ⟨(Ar, cr), rfl, trivial, t.turns hF (by simp) (i := 0) rfl⟩
end Go.Proofs.YticjkhagldkejaaGreatDoor
/- The law FirmRates. -/
namespace Go.Proofs.YticjkhagldkejaaGreatDoor
set_option linter.all false
set_option maxHeartbeats 4000000
set_option maxRecDepth 20000
open Go.RowKit
theorem phN_ok (p : Int) : decide (phN p = 0) = decide (p = 48) ∧ decide (phN p = 1) = decide (p = 49) ∧ decide (phN p = 2) = decide (p = 116) ∧ ¬ phN p > 3 := by
 unfold phN
 by_cases h0 : p = 48
 ·subst h0; decide
 ·by_cases h1 : p = 49
  ·subst h1; decide
  ·by_cases h2 : p = 116
   ·subst h2; decide
   ·simp [h0, h1, h2]
theorem frates_any (A : Option Addr) (n c : Nat) (zs : List Int) (on ticks : Int) (w : World) (h0 : SlS (all w) 1 A n (intCells zs)) (hz : I64s zs) (hn : n = zs.length) (hn2 : n ≤ 9223372036854775807) (hon : -9223372036854775808 ≤ on ∧ on ≤ 9223372036854775807) (htk : -9223372036854775808 ≤ ticks ∧ ticks ≤ 9223372036854775807) :
  Calls Tryz.prog 4 #[.slice A n c, .int .i64 on, .int .i64 ticks] w (Rt (.bool true) w) := by
 refine XK.enter (vs := [.slice A n c, .int .i64 on, .int .i64 ticks]) Tryz.func4 rfl Tryz.ntmps4 (by simp) ?_
 refine XK.go ?_
 refine kcall (fun w1 t => shown15_any w1) ?_
 refine XK.go ?_
 refine xk_call [] (f := 14) (fi := []) (ca := []) (by kernel_rfl) rfl rfl (by decide) (by simp) (fun v w w' => ∃ cs s, v = .agg cs ∧ SocR (slq (fresh w w')) s cs ∧ s.made) (fun w1 st => chip15_any A n c zs w1 (h0.le (st.le (by simp))) hz hn hn2) ?_
 rintro _ w1 q1 ⟨cs, s, rfl, hS, hm⟩ hf _ _
 obtain ⟨A1, n1, k1, A2, n2, k2, A3, n3, k3, A4, n4, k4, rfl, hSQ⟩ := (hS.mono (slq_le hf)).Q
 clear hf hS
 have hH := hm.okH
 have hsm := made_small hm
 refine xk_alloc (cs := [.slice none 0 0, .slice none 0 0, .slice none 0 0, .slice none 0 0]) (zeroB_of (by kernel_rfl)) (by decide) fun g1 => ?_
 refine XK.go ?_
 refine xk_callN (f := 15) (fi := []) (ca := []) (by kernel_rfl) rfl rfl (by decide) (HardOk s) (fun w1 t => hardNew_ok s hH A1 A2 A3 A4 n1 k1 n2 k2 n3 k3 n4 k4 w1 (hSQ.W (t.le (by simp)) hsm)) ?_
 rintro _ _ q2 ⟨hL, rfl, rfl, hl1, hl2⟩ _
 dsimp only [List.cons_append, List.nil_append]
 refine XK.go ?_
 refine xk_callN (f := 16) (fi := []) (ca := []) (by kernel_rfl) rfl rfl (by decide) (FirmOk hL.h s) (fun w1 t => firmNew_ok hL.h s hH A1 A2 A3 A4 n1 k1 n2 k2 n3 k3 n4 k4 w1 (hSQ.W (t.le (by simp)) hsm)) ?_
 rintro _ _ q3 ⟨f, rfl, rfl⟩ _
 dsimp only [List.cons_append, List.nil_append]
 have hLo : HLOk hL s := ⟨hl1, hl2⟩
 have hok0 := hw0_ok hH
 obtain ⟨rfl, rfl, rfl, rfl⟩ := hSQ.len
 have hc9 := hm.nc
 have hd4 := hm.nd
 have hr3 := hm.nr
 have hv4 := hm.nv
 have hwt0 : ∀ i, wtN (hw0 s).wt i = 0 := fun i => by
  unfold wtN hw0
  simp only [List.getElem?_map]
  cases s.devs[i]? <;> rfl
 refine XK.go ?_
 refine XK.weak [0, 1, 2] rfl (by decide) (R' := [all w]) (by simp) ?_
 refine XK.pair ?_
 change XK _ _ _ _ _ [MachH f hL s (zA s 1) (hw0 s), HP.blk g1 29 [.slice A1 s.clocks.length k1, .slice A2 s.domains.length k2, .slice A3 s.resets.length k3, .slice A4 s.devs.length k4]]
 refine XK.envS [(13, .int .i64 0), (11, .pointer (some ⟨f, 0, none⟩)), (9, .pointer (some ⟨hL.h, 0, none⟩)), (8, .pointer (some ⟨g1, 0, none⟩)), (2, .int .i64 ticks), (1, .int .i64 on)] ?_
 refine XK.loop (fun m e R H => ∃ (k : Nat) (x : HwS), k ≤ s.clocks.length ∧ m = s.clocks.length - k ∧ HwOk s x ∧ (∀ i, wtN x.wt i = 0) ∧ e = [(13, .int .i64 (k : Int)), (11, .pointer (some ⟨f, 0, none⟩)), (9, .pointer (some ⟨hL.h, 0, none⟩)), (8, .pointer (some ⟨g1, 0, none⟩)), (2, .int .i64 ticks), (1, .int .i64 on)] ∧ R = [all w] ∧ H = [MachH f hL s (zA s 1) x, HP.blk g1 29 [.slice A1 s.clocks.length k1, .slice A2 s.domains.length k2, .slice A3 s.resets.length k3, .slice A4 s.devs.length k4]]) (s.clocks.length) ⟨0, _, by omega, rfl, hok0, hwt0, rfl, rfl, rfl⟩ fun m e R H hI => ?_
 obtain ⟨k, x, hk, rfl, hok, hwt, rfl, rfl, rfl⟩ := hI
 refine XK.go ?_
 refine XK.if_ rfl (fun hlt => ?_) (fun hge => ?_)
 ·have hlt : k < s.clocks.length := by omega
  refine XK.go ?_
  refine XK.take 0 1 rfl rfl ?_
  dsimp only [List.set]
  refine kd (does_shr rfl rfl (c := on.fdiv (2 ^ min k 64)) (by omega) rfl) ?_
  refine kd (does_bits (c := and64 (on.fdiv (2 ^ min k 64)) 1) rfl rfl (fun _ => rfl) (by simp)) ?_
  refine XK.go ?_
  refine kcallW 0 (HardH hL s { x with ck := (onF s x.ck (k : Int) (decide (and64 (on.fdiv (2 ^ min k 64)) 1 = 1))).2 }) (fun w1 F1 t h1 h2 h3 => hdGate_m hL s x w1 hH hLo hok _ _ F1 h1 h2) ?_
  dsimp only [List.set]
  refine XK.go ?_
  refine XK.give 0 1 rfl rfl ?_
  dsimp only [List.set]
  refine XK.envS [(13, .int .i64 (k + 1 : Nat)), (11, .pointer (some ⟨f, 0, none⟩)), (9, .pointer (some ⟨hL.h, 0, none⟩)), (8, .pointer (some ⟨g1, 0, none⟩)), (2, .int .i64 ticks), (1, .int .i64 on)] ?_
  exact XK.round (s.clocks.length - (k + 1)) (by omega) ⟨k + 1, { x with ck := (onF s x.ck (k : Int) (decide (and64 (on.fdiv (2 ^ min k 64)) 1 = 1))).2 }, hlt, rfl, ⟨onF_ok hH hok.ck _ _, hok.dm, hok.ln, hok.dv, hok.each, hok.wt⟩, hwt, rfl, rfl, rfl⟩
 have hge : k = s.clocks.length := by omega
 clear hge
 refine XK.go ?_
 clear hk
 refine XK.envS [(14, .int .i64 0), (11, .pointer (some ⟨f, 0, none⟩)), (9, .pointer (some ⟨hL.h, 0, none⟩)), (8, .pointer (some ⟨g1, 0, none⟩)), (2, .int .i64 ticks), (1, .int .i64 on)] ?_
 refine XK.loop (fun m e R H => ∃ (k : Nat) (x : HwS), k ≤ s.domains.length ∧ m = s.domains.length - k ∧ HwOk s x ∧ (∀ i, wtN x.wt i = 0) ∧ e = [(14, .int .i64 (k : Int)), (11, .pointer (some ⟨f, 0, none⟩)), (9, .pointer (some ⟨hL.h, 0, none⟩)), (8, .pointer (some ⟨g1, 0, none⟩)), (2, .int .i64 ticks), (1, .int .i64 on)] ∧ R = [all w] ∧ H = [MachH f hL s (zA s 1) x, HP.blk g1 29 [.slice A1 s.clocks.length k1, .slice A2 s.domains.length k2, .slice A3 s.resets.length k3, .slice A4 s.devs.length k4]]) (s.domains.length) ⟨0, _, by omega, rfl, hok, hwt, rfl, rfl, rfl⟩ fun m e R H hI => ?_
 obtain ⟨k, x, hk, rfl, hok, hwt, rfl, rfl, rfl⟩ := hI
 refine XK.go ?_
 refine XK.if_ rfl (fun hlt => ?_) (fun hge => ?_)
 ·have hlt : k < s.domains.length := by omega
  refine XK.go ?_
  refine XK.take 0 1 rfl rfl ?_
  dsimp only [List.set]
  refine kcallW 0 (HardH hL s { x with dm := (upF s x.dm (k : Int)).2 }) (fun w1 F1 t h1 h2 h3 => hdUp_m hL s x w1 hH hLo hok _ F1 h1 h2) ?_
  dsimp only [List.set]
  refine XK.go ?_
  refine XK.give 0 1 rfl rfl ?_
  dsimp only [List.set]
  refine XK.envS [(14, .int .i64 (k + 1 : Nat)), (11, .pointer (some ⟨f, 0, none⟩)), (9, .pointer (some ⟨hL.h, 0, none⟩)), (8, .pointer (some ⟨g1, 0, none⟩)), (2, .int .i64 ticks), (1, .int .i64 on)] ?_
  exact XK.round (s.domains.length - (k + 1)) (by omega) ⟨k + 1, { x with dm := (upF s x.dm (k : Int)).2 }, hlt, rfl, ⟨hok.ck, upF_ok hH hok.dm _, hok.ln, hok.dv, hok.each, hok.wt⟩, hwt, rfl, rfl, rfl⟩
 have hge : k = s.domains.length := by omega
 clear hge
 refine XK.go ?_
 refine XK.envS [(15, .int .i64 0), (11, .pointer (some ⟨f, 0, none⟩)), (9, .pointer (some ⟨hL.h, 0, none⟩)), (8, .pointer (some ⟨g1, 0, none⟩)), (2, .int .i64 ticks), (1, .int .i64 on)] ?_
 refine XK.loop (fun m e R H => ∃ (k : Nat) (x : HwS), k ≤ 12 ∧ m = 12 - k ∧ HwOk s x ∧ (∀ i, wtN x.wt i = 0) ∧ e = [(15, .int .i64 (k : Int)), (11, .pointer (some ⟨f, 0, none⟩)), (9, .pointer (some ⟨hL.h, 0, none⟩)), (8, .pointer (some ⟨g1, 0, none⟩)), (2, .int .i64 ticks), (1, .int .i64 on)] ∧ R = [all w] ∧ H = [MachH f hL s (zA s 1) x, HP.blk g1 29 [.slice A1 s.clocks.length k1, .slice A2 s.domains.length k2, .slice A3 s.resets.length k3, .slice A4 s.devs.length k4]]) (12) ⟨0, _, by omega, rfl, hok, hwt, rfl, rfl, rfl⟩ fun m e R H hI => ?_
 obtain ⟨k, x, hk, rfl, hok, hwt, rfl, rfl, rfl⟩ := hI
 refine XK.go ?_
 refine xk_callV (f := 17) (fi := []) (ca := []) (by kernel_rfl) rfl rfl (by decide) (fun v => ∃ r : Int, v = .int .i64 r ∧ 0 ≤ r ∧ r < 12) (fun w1 st => pick15_any ticks 12 w1 htk (by decide)) ?_
 rintro _ ⟨r, rfl, hr0, hr12⟩
 refine XK.go ?_
 refine XK.if_ rfl (fun hlt => ?_) (fun hge => ?_)
 ·have hlt : k < 12 := by omega
  refine XK.go ?_
  refine XK.take 0 1 rfl rfl ?_
  dsimp only [List.set]
  refine kcallW 0 (HardH hL s (tickX s x 0)) (fun w1 F1 t h1 h2 h3 => hdTick_m hL s x w1 hH hLo hok 0 (by decide) hwt F1 h1 h2) ?_
  dsimp only [List.set]
  refine XK.go ?_
  refine XK.give 0 1 rfl rfl ?_
  dsimp only [List.set]
  refine XK.envS [(15, .int .i64 (k + 1 : Nat)), (11, .pointer (some ⟨f, 0, none⟩)), (9, .pointer (some ⟨hL.h, 0, none⟩)), (8, .pointer (some ⟨g1, 0, none⟩)), (2, .int .i64 ticks), (1, .int .i64 on)] ?_
  exact XK.round (12 - (k + 1)) (by omega) ⟨k + 1, tickX s x 0, hlt, rfl, tickX_ok hH hok 0, hwt, rfl, rfl, rfl⟩
 refine XK.go ?_
 refine XK.envS [(16, .int .i64 0), (11, .pointer (some ⟨f, 0, none⟩)), (9, .pointer (some ⟨hL.h, 0, none⟩)), (8, .pointer (some ⟨g1, 0, none⟩)), (2, .int .i64 ticks), (1, .int .i64 on)] ?_
 refine XK.loop (fun m e R H => ∃ (k : Nat) (l : Int), k ≤ s.clocks.length ∧ m = s.clocks.length - k ∧ (l = 0 ∨ l = 1) ∧ e = [(16, .int .i64 (k : Int)), (11, .pointer (some ⟨f, 0, none⟩)), (9, .pointer (some ⟨hL.h, 0, none⟩)), (8, .pointer (some ⟨g1, 0, none⟩)), (2, .int .i64 ticks), (1, .int .i64 on)] ∧ R = [all w] ∧ H = [MachH f hL s (zA s l) x, HP.blk g1 29 [.slice A1 s.clocks.length k1, .slice A2 s.domains.length k2, .slice A3 s.resets.length k3, .slice A4 s.devs.length k4]]) (s.clocks.length) ⟨0, 1, by omega, rfl, .inr rfl, rfl, rfl, rfl⟩ fun m e R H hI => ?_
 obtain ⟨k, l, hk, rfl, hl, rfl, rfl, rfl⟩ := hI
 refine XK.go ?_
 refine XK.if_ rfl (fun hlt => ?_) (fun hge => ?_)
 ·have hlt : k < s.clocks.length := by omega
  refine XK.go ?_
  refine kd (does_conv (ds := .int .i64) (kd := .u32) (c := (k : Int)) (by kernel_rfl) (by kernel_rfl) rfl (wrap_u32 (by omega))) ?_
  refine xk_callMV (α := AC) 0 (f := 26) (fi := []) (ca := []) (fun c => .slice c.1 4 c.2) (fun c => askH f hL s (zA s 0) x [(packZ 6 0 20 0).1, IntKind.u32.wrap 0, IntKind.u32.wrap (rateI s x.ck k), IntKind.u32.wrap (rateI s x.ck k / 4294967296)] c) (fun _ => True) (by kernel_rfl) rfl rfl rfl (by decide) (fun w1 F1 t h1 h2 h3 => asked_m f hL s x l 20 6 k _ hH hLo hok hl head_rate (by omega) (by omega) (by simpa [numF] using hlt) (more_rate k) w1 F1 h1 h2) ?_
  rintro ⟨Ar, cr⟩ _
  dsimp only [List.set]
  refine XK.take 0 1 rfl rfl ?_
  dsimp only [List.set]
  refine XK.still [] [0] [1, 2] (by simp) rfl (by decide) (by decide) fun q hq _ hfr => ?_
  obtain ⟨F2, sf2, zf2⟩ := hq 0 _ (by simp) rfl
  have hr : BxP (Ar, cr) [(packZ 6 0 20 0).1, IntKind.u32.wrap 0, IntKind.u32.wrap (rateI s x.ck k), IntKind.u32.wrap (rateI s x.ck k / 4294967296)] q := BxP.le ⟨q.w, F2⟩ q (fun b hb => ⟨zf2 b hb, rfl⟩) sf2
  obtain ⟨b, off, rfl, hb, hc⟩ := hr.2 (by simp)
  refine XK.take 0 0 rfl rfl ?_
  dsimp only [List.set]
  refine XK.weak [0, 2] rfl (by decide) (fun _ h => h) ?_
  refine XK.take 0 1 rfl rfl ?_
  dsimp only [List.set]
  obtain ⟨rb0, rb1⟩ := rateI_bd hH.t.clocks x.ck (k : Int)
  obtain ⟨lo, hi, elo, ehi, b1, b2, b3, b4, hsum⟩ := rate_halves rb0 (by omega)
  rw [elo, ehi] at hc
  have r1 : Rd w [q, all w] [HardH hL s x, HP.many [FirmX f hL.h s (zA s 0), HP.emp], HP.blk g1 29 [.slice A1 s.clocks.length k1, .slice A2 s.domains.length k2, .slice A3 s.resets.length k3, .slice A4 s.devs.length k4]] b (off + 1) (.int .u32 (IntKind.u32.wrap 0)) := Rd.ro (p := q) (by simp) hb (hc 1 _ rfl)
  have r2 : Rd w [q, all w] [HardH hL s x, HP.many [FirmX f hL.h s (zA s 0), HP.emp], HP.blk g1 29 [.slice A1 s.clocks.length k1, .slice A2 s.domains.length k2, .slice A3 s.resets.length k3, .slice A4 s.devs.length k4]] b (off + 2) (.int .u32 lo) := Rd.ro (p := q) (by simp) hb (hc 2 _ rfl)
  have r3 : Rd w [q, all w] [HardH hL s x, HP.many [FirmX f hL.h s (zA s 0), HP.emp], HP.blk g1 29 [.slice A1 s.clocks.length k1, .slice A2 s.domains.length k2, .slice A3 s.resets.length k3, .slice A4 s.devs.length k4]] b (off + 3) (.int .u32 hi) := Rd.ro (p := q) (by simp) hb (hc 3 _ rfl)
  refine XK.go ?_
  refine XK.drawQ ?_
  refine XQ.go ?_
  refine XQ.kd (dat 1 (off + 1)) ?_
  refine XQ.go ?_
  refine XQ.split 111 rfl (fun h => absurd h (by decide)) (fun _ => ?_)
  refine XQ.go ?_
  refine XQ.kd (dat 2 (off + 2)) ?_
  refine XQ.go ?_
  refine XQ.kd (does_conv (ds := .int .u32) (kd := .u64) (c := lo) (by kernel_rfl) (by kernel_rfl) rfl (wrap_u64 (by omega))) ?_
  refine XQ.go ?_
  refine XQ.kd (dat 3 (off + 3)) ?_
  refine XQ.go ?_
  refine XQ.kd (does_conv (ds := .int .u32) (kd := .u64) (c := hi) (by kernel_rfl) (by kernel_rfl) rfl (wrap_u64 (by omega))) ?_
  refine XQ.go ?_
  refine XQ.kd (does_shl (kd := .u64) (i := hi) (j := 32) (c := hi * 4294967296) rfl rfl (by omega) (wrap_u64 (a := hi * 4294967296) (by omega))) ?_
  refine XQ.go ?_
  refine XQ.kd (does_add (kd := .u64) (i := lo) (j := hi * 4294967296) (c := rateI s x.ck k) rfl rfl (by rw [hsum]; exact wrap_u64 (by omega))) ?_
  refine XQ.go ?_
  refine XQ.call (fun w1 t => hdRate_any hL s x w1 hH k (t.hardR 0 rfl hLo hok)) ?_
  refine XQ.end_ ?_
  refine XK.if_ rfl (fun h => absurd rfl h) (fun _ => ?_)
  refine XK.go ?_
  refine XK.give 0 1 rfl rfl ?_
  dsimp only [List.set]
  refine XK.go ?_
  refine XK.weak [0, 1] rfl (by decide) (R' := [all w]) (by simp) ?_
  refine XK.envS [(16, .int .i64 (k + 1 : Nat)), (11, .pointer (some ⟨f, 0, none⟩)), (9, .pointer (some ⟨hL.h, 0, none⟩)), (8, .pointer (some ⟨g1, 0, none⟩)), (2, .int .i64 ticks), (1, .int .i64 on)] ?_
  exact XK.round (s.clocks.length - (k + 1)) (by omega) ⟨k + 1, 0, hlt, rfl, .inl rfl, rfl, rfl, rfl⟩
 clear hge
 refine XK.go ?_
 refine XK.envS [(18, .int .i64 0), (11, .pointer (some ⟨f, 0, none⟩)), (9, .pointer (some ⟨hL.h, 0, none⟩)), (8, .pointer (some ⟨g1, 0, none⟩)), (2, .int .i64 ticks), (1, .int .i64 on)] ?_
 refine XK.loop (fun m e R H => ∃ (k : Nat) (l : Int), k ≤ s.domains.length ∧ m = s.domains.length - k ∧ (l = 0 ∨ l = 1) ∧ e = [(18, .int .i64 (k : Int)), (11, .pointer (some ⟨f, 0, none⟩)), (9, .pointer (some ⟨hL.h, 0, none⟩)), (8, .pointer (some ⟨g1, 0, none⟩)), (2, .int .i64 ticks), (1, .int .i64 on)] ∧ R = [all w] ∧ H = [MachH f hL s (zA s l) x, HP.blk g1 29 [.slice A1 s.clocks.length k1, .slice A2 s.domains.length k2, .slice A3 s.resets.length k3, .slice A4 s.devs.length k4]]) (s.domains.length) ⟨0, _, by omega, rfl, hl, rfl, rfl, rfl⟩ fun m e R H hI => ?_
 obtain ⟨k, l, hk, rfl, hl, rfl, rfl, rfl⟩ := hI
 refine XK.go ?_
 refine XK.if_ rfl (fun hlt => ?_) (fun hge => ?_)
 ·have hlt : k < s.domains.length := by omega
  refine XK.go ?_
  refine kd (does_conv (ds := .int .i64) (kd := .u32) (c := (k : Int)) (by kernel_rfl) (by kernel_rfl) rfl (wrap_u32 (by omega))) ?_
  refine xk_callMV (α := AC) 0 (f := 26) (fi := []) (ca := []) (fun c => .slice c.1 3 c.2) (fun c => askH f hL s (zA s 0) x [(packZ 5 0 17 0).1, IntKind.u32.wrap 0, phN (phaseF x.dm k)] c) (fun _ => True) (by kernel_rfl) rfl rfl rfl (by decide) (fun w1 F1 t h1 h2 h3 => asked_m f hL s x l 17 5 k _ hH hLo hok hl head_power (by omega) (by omega) (by simpa [numF] using hlt) (more_power k) w1 F1 h1 h2) ?_
  rintro ⟨Ar, cr⟩ _
  dsimp only [List.set]
  refine XK.take 0 1 rfl rfl ?_
  dsimp only [List.set]
  refine XK.still [] [0] [1, 2] (by simp) rfl (by decide) (by decide) fun q hq _ hfr => ?_
  obtain ⟨F2, sf2, zf2⟩ := hq 0 _ (by simp) rfl
  have hr : BxP (Ar, cr) [(packZ 5 0 17 0).1, IntKind.u32.wrap 0, phN (phaseF x.dm k)] q := BxP.le ⟨q.w, F2⟩ q (fun b hb => ⟨zf2 b hb, rfl⟩) sf2
  obtain ⟨b, off, rfl, hb, hc⟩ := hr.2 (by simp)
  refine XK.take 0 0 rfl rfl ?_
  dsimp only [List.set]
  refine XK.weak [0, 2] rfl (by decide) (fun _ h => h) ?_
  refine XK.take 0 1 rfl rfl ?_
  dsimp only [List.set]
  generalize hph : phaseF x.dm (k : Int) = ph at hc
  have r1 : Rd w [q, all w] [HardH hL s x, HP.many [FirmX f hL.h s (zA s 0), HP.emp], HP.blk g1 29 [.slice A1 s.clocks.length k1, .slice A2 s.domains.length k2, .slice A3 s.resets.length k3, .slice A4 s.devs.length k4]] b (off + 1) (.int .u32 (IntKind.u32.wrap 0)) := Rd.ro (p := q) (by simp) hb (hc 1 _ rfl)
  have r2 : Rd w [q, all w] [HardH hL s x, HP.many [FirmX f hL.h s (zA s 0), HP.emp], HP.blk g1 29 [.slice A1 s.clocks.length k1, .slice A2 s.domains.length k2, .slice A3 s.resets.length k3, .slice A4 s.devs.length k4]] b (off + 2) (.int .u32 (phN ph)) := Rd.ro (p := q) (by simp) hb (hc 2 _ rfl)
  refine XK.go ?_
  refine kcall (fun w1 t => hdPhase_any hL s x w1 hok.dm k (t.hardR 0 rfl hLo hok)) ?_
  rw [hph]
  obtain ⟨p0, p1, p2, p3⟩ := phN_ok ph
  refine XK.go ?_
  refine kd (dat 1 (off + 1)) ?_
  refine XK.go ?_
  refine xk_split (t := 150) rfl (fun h => absurd h (by decide)) (fun _ => ?_)
  refine XK.go ?_
  refine kd (dat 2 (off + 2)) ?_
  refine XK.go ?_
  refine kd (does_neqB (by kernel_rfl) rfl rfl) ?_
  refine XK.go ?_
  refine xk_splitB (t := 159) rfl (fun h => absurd h (by rw [p0]; simp)) (fun _ => ?_)
  refine XK.go ?_
  refine kd (dat 2 (off + 2)) ?_
  refine XK.go ?_
  refine kd (does_neqB (by kernel_rfl) rfl rfl) ?_
  refine XK.go ?_
  refine xk_splitB (t := 168) rfl (fun h => absurd h (by rw [p1]; simp)) (fun _ => ?_)
  refine XK.go ?_
  refine kd (dat 2 (off + 2)) ?_
  refine XK.go ?_
  refine kd (does_neqB (by kernel_rfl) rfl rfl) ?_
  refine XK.go ?_
  refine xk_splitB (t := 177) rfl (fun h => absurd h (by rw [p2]; simp)) (fun _ => ?_)
  refine XK.go ?_
  refine kd (dat 2 (off + 2)) ?_
  refine XK.go ?_
  refine XK.if_ rfl (fun h => absurd h p3) (fun _ => ?_)
  refine XK.go ?_
  refine XK.give 0 1 rfl rfl ?_
  dsimp only [List.set]
  refine XK.go ?_
  refine XK.weak [0, 1] rfl (by decide) (R' := [all w]) (by simp) ?_
  refine XK.envS [(18, .int .i64 (k + 1 : Nat)), (11, .pointer (some ⟨f, 0, none⟩)), (9, .pointer (some ⟨hL.h, 0, none⟩)), (8, .pointer (some ⟨g1, 0, none⟩)), (2, .int .i64 ticks), (1, .int .i64 on)] ?_
  exact XK.round (s.domains.length - (k + 1)) (by omega) ⟨k + 1, 0, hlt, rfl, .inl rfl, rfl, rfl, rfl⟩
 clear hge
 refine XK.go ?_
 obtain ⟨hat1, hat2, hat3, hat4⟩ := attr_ok hH.t
 have hu : U32s [(packZ 1 0 16 0).1] := by
  intro y hy
  simp at hy
  subst hy
  exact pack_bd _ _ _ _
 have htk := zQ_take (s := s) (x := x) (m := [(packZ 1 0 16 0).1]) (b := 1) hl (by omega) (ask_dec0 head_base)
 rw [more_base] at htk
 refine xk_buildS (zs := [.int .i64 0, .int .i64 0, .int .i64 0, .int .i64 0]) (L := [(0, 1), (1, 1), (2, 1), (3, 1)]) (zeroB_of (by kernel_rfl)) (by kernel_rfl) rfl (by simp [fillL, setN, Value.cells]; rfl) (by decide) ?_
 refine xk_call [] (f := 18) (fi := []) (ca := []) (by kernel_rfl) rfl rfl (by decide) (by simp) (CmdOk ((packZ 1 0 16 0).1 :: [])) (fun w1 t => command_any 1 0 16 0 none 0 0 [] w1 (SlS.nil _ _) rfl (by omega) head_base.pk) ?_
 rintro _ w1 qm ⟨Al, cl, rfl, hl3⟩ hf _ _
 have hl3 := hl3.le hf
 clear hf
 refine XK.take 0 0 rfl rfl ?_
 dsimp only [List.set]
 refine XK.go ?_
 refine kcallW 0 (FirmX f hL.h s (zQ s l 1 [(packZ 1 0 16 0).1])) (fun w1 F1 t h1 h2 h3 => by
  have := fmSend_m f hL.h s (zA s l) 1 Al _ cl [(packZ 1 0 16 0).1] w1 F1 h1 h2 (hl3.le (h3 _ (by simp))) rfl (by simp)
  rw [show sendF (zA s l) 1 [(packZ 1 0 16 0).1] = (0, zQ s l 1 [(packZ 1 0 16 0).1]) from zQ_send (b := 1) (by omega)] at this
  exact this) ?_
 dsimp only [List.set]
 refine XK.go ?_
 refine XK.give 0 0 rfl rfl ?_
 dsimp only [List.set]
 refine kcallW 0 (MachH f hL s (putBox (zA s 1) 1 2 [(packZ 1 0 16 0).1, IntKind.u32.wrap 0, attrZ s]) x) (fun w1 F1 t h1 h2 h3 => by
  have := fmStep_ask f hL s (zQ s l 1 [(packZ 1 0 16 0).1]) x hH hLo hok (zQ_ok hH.t hl hu (by simp)) (fun b hb _ _ => by
   rw [zQ_next hl (by omega)] at hb
   cases hb
   rw [zQ_box (by omega)]
   exact ask_reply0) (by rw [zQ_x.2.2]; decide) (by rw [htk]) w1 F1 h1 h2
  rw [htk] at this
  exact this) ?_
 dsimp only [List.set]
 refine XK.go ?_
 refine XK.take 0 0 rfl rfl ?_
 dsimp only [List.set]
 refine xk_callMV (α := AC) 0 (f := 21) (fi := []) (ca := []) (fun c => .tuple #[.slice c.1 3 c.2, .bool true]) (fun c => readH f hL.h s (zA s 1) [(packZ 1 0 16 0).1, IntKind.u32.wrap 0, attrZ s] c) (fun _ => True) (by kernel_rfl) rfl rfl rfl (by decide) (fun w1 F1 t h1 h2 h3 => by
  have := fmRead_m f hL.h s (putBox (zA s 1) 1 2 [(packZ 1 0 16 0).1, IntKind.u32.wrap 0, attrZ s]) 1 w1 F1 h1 h2
  rw [show readW (putBox (zA s 1) 1 2 [(packZ 1 0 16 0).1, IntKind.u32.wrap 0, attrZ s]) 1 = some [(packZ 1 0 16 0).1, IntKind.u32.wrap 0, attrZ s] from zQ_readW (b := 1) (by omega), show readZ (putBox (zA s 1) 1 2 [(packZ 1 0 16 0).1, IntKind.u32.wrap 0, attrZ s]) 1 = zA s 1 from zQ_readZ (b := 1) (by omega)] at this
  exact this) ?_
 rintro ⟨Ar, cr⟩ _
 dsimp only [List.set]
 refine XK.take 0 1 rfl rfl ?_
 dsimp only [List.set]
 refine XK.still [] [0] [3] (by simp) rfl (by decide) (by decide) fun q hq _ hfr => ?_
 obtain ⟨F2, sf2, zf2⟩ := hq 0 _ (by simp) rfl
 have hr : BxP (Ar, cr) [(packZ 1 0 16 0).1, IntKind.u32.wrap 0, attrZ s] q := BxP.le ⟨q.w, F2⟩ q (fun b hb => ⟨zf2 b hb, rfl⟩) sf2
 obtain ⟨b, off, rfl, hb, hc⟩ := hr.2 (by simp)
 have r2 : Rd w [q, qm, all w] [HP.blk g1 29 [.slice A1 s.clocks.length k1, .slice A2 s.domains.length k2, .slice A3 s.resets.length k3, .slice A4 s.devs.length k4]] b (off + 2) (.int .u32 (attrZ s)) := Rd.ro (p := q) (by simp) hb (hc 2 _ rfl)
 generalize attrZ s = at_ at r2 hat1 hat2 hat3 hat4
 refine XK.go ?_
 refine XK.drawQ ?_
 refine XQ.go ?_
 refine XQ.kd (dat 2 (off + 2)) ?_
 refine XQ.go ?_
 refine XQ.kd (does_bits (c := and32 at_ 255) rfl rfl (fun _ => rfl) (by simp)) ?_
 refine XQ.go ?_
 refine XQ.kd (does_conv (ds := .int .i64) (kd := .u32) (c := (s.domains.length : Int)) (by kernel_rfl) (by kernel_rfl) rfl (wrap_u32 (by omega))) ?_
 refine XQ.go ?_
 refine XQ.split 215 rfl (fun _ => ?_) (fun h => absurd hat1 h)
 refine XQ.go ?_
 refine XQ.kd (dat 2 (off + 2)) ?_
 refine XQ.go ?_
 refine XQ.kd (does_shr (kd := .u32) (i := at_) (j := 8) (c := at_.fdiv (2 ^ min (Int.toNat 8) 32)) rfl rfl (by omega) rfl) ?_
 refine XQ.go ?_
 refine XQ.kd (does_bits (c := and32 (at_.fdiv (2 ^ min (Int.toNat 8) 32)) 255) rfl rfl (fun _ => rfl) (by simp)) ?_
 refine XQ.go ?_
 refine XQ.kd (does_conv (ds := .int .i64) (kd := .u32) (c := (s.clocks.length : Int)) (by kernel_rfl) (by kernel_rfl) rfl (wrap_u32 (by omega))) ?_
 refine XQ.go ?_
 refine XQ.split 227 rfl (fun _ => ?_) (fun h => absurd hat2 h)
 refine XQ.go ?_
 refine XQ.kd (dat 2 (off + 2)) ?_
 refine XQ.go ?_
 refine XQ.kd (does_shr (kd := .u32) (i := at_) (j := 16) (c := at_.fdiv (2 ^ min (Int.toNat 16) 32)) rfl rfl (by omega) rfl) ?_
 refine XQ.go ?_
 refine XQ.kd (does_bits (c := and32 (at_.fdiv (2 ^ min (Int.toNat 16) 32)) 255) rfl rfl (fun _ => rfl) (by simp)) ?_
 refine XQ.go ?_
 refine XQ.kd (does_conv (ds := .int .i64) (kd := .u32) (c := (s.resets.length : Int)) (by kernel_rfl) (by kernel_rfl) rfl (wrap_u32 (by omega))) ?_
 refine XQ.go ?_
 refine XQ.split 239 rfl (fun _ => ?_) (fun h => absurd hat3 h)
 refine XQ.go ?_
 refine XQ.kd (dat 2 (off + 2)) ?_
 refine XQ.go ?_
 refine XQ.kd (does_shr (kd := .u32) (i := at_) (j := 24) (c := at_.fdiv (2 ^ min (Int.toNat 24) 32)) rfl rfl (by omega) rfl) ?_
 refine XQ.go ?_
 refine XQ.kd (does_conv (ds := .int .i64) (kd := .u32) (c := (s.devs.length : Int)) (by kernel_rfl) (by kernel_rfl) rfl (wrap_u32 (by omega))) ?_
 refine XQ.end_ ?_
 refine XK.go ?_
 exact XK.retE (by simp) (show Value.bool (decide _) = Value.bool true from by rw [decide_eq_true hat4])
end Go.Proofs.YticjkhagldkejaaGreatDoor
