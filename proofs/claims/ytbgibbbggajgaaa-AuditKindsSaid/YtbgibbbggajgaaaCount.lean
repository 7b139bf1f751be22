/- package count: how often devices were got. -/
import Derived.Test.YtbgibbbggajgaaaAud0
import Derived.Test.YtbgibbbggajgaaaConf4
import Derived.Test.YtbgibbbggajgaaaEx
import Derived.Test.YtbgibbbggajgaaaMade
namespace Go.Proofs.Ytbgibbbggajgaaa
set_option linter.all false
open Go.RowKit
/-- counts, in plain words -/
structure Cn where
  l : List (Int × Int)
  asl : Bool
def Cn.up (c : Cn) (dev k : Int) : Cn := ⟨setC c.l dev (IntKind.i64.wrap (getC c.l dev + k)), c.asl⟩
def cget (nd : Nat) (c : Cn) (dev : Int) : Int × Cn := if c.asl then (6, c) else if ¬ (0 ≤ dev ∧ dev < nd) then (4, c) else if 7 ≤ getC c.l dev then (8, c) else (0, ⟨setC c.l dev (IntKind.i64.wrap (getC c.l dev + 1)), c.asl⟩)
def cput (nd : Nat) (c : Cn) (dev : Int) : Int × Cn := if c.asl then (6, c) else if ¬ (0 ≤ dev ∧ dev < nd) then (4, c) else if getC c.l dev ≤ 0 then (6, c) else (0, ⟨setC c.l dev (IntKind.i64.wrap (getC c.l dev - 1)), c.asl⟩)
def csus (c : Cn) : Int × Cn := if c.asl then (6, c) else (0, ⟨c.l, true⟩)
def cres (c : Cn) : Int × Cn := if c.asl then (0, ⟨c.l, false⟩) else (6, c)
/-- .. and where they lie -/
def CntH (gc gm : Nat) (v : Value) (c : Cn) : HP := HP.many [HP.blk gc 170 [v, .map (some gm), .bool c.asl], HP.map gm (cntL c.l)]

theorem known_any (gc n k : Nat) (A : Option Addr) (dev : Int) (w : World) (h0 : ROc w gc 0 (.slice A n k)) :
    Calls Try.prog 133 #[.pointer (some ⟨gc, 0, none⟩), .int .i64 dev] w (Rt (.bool (decide (0 ≤ dev ∧ dev < n))) w) := by
  refine XK.enter (vs := [.pointer (some ⟨gc, 0, none⟩), .int .i64 dev]) Try.func133 rfl Try.ntmps133 (by simp) ?_
  refine XK.seq ?_

  refine XK.region ?_
  refine xk_assign rfl (by decide) ?_
  refine XK.nil ?_
  (repeat (first | refine XK.thenN ?_ | refine XK.thenE ?_ | refine XK.thenR ?_ | refine XK.inN ?_ | refine XK.inE ?_ | refine XK.inR ?_ | refine XK.inF rfl ?_))
  refine XK.seq ?_

  refine XK.region ?_
  refine xk_move rfl (by decide) ?_
  refine xk_geq rfl rfl (by decide) ?_
  refine xk_move rfl (by decide) ?_
  (first | refine xk_split (t := 7) rfl (fun hg => ?_) (fun hg => ?_) | refine xk_splitB (t := 7) rfl (fun hg => ?_) (fun hg => ?_))
  ·
    refine xk_guardT rfl rfl ?_; refine xk_move rfl (by decide) ?_
    refine xk_guardT rfl rfl ?_; refine xk_move rfl (by decide) ?_
    refine xk_guardT rfl rfl ?_; refine xk_nilC rfl (by decide) ?_
    refine xk_guardT rfl rfl ?_; refine xk_field (off := 0) (by kernel_rfl) rfl (by decide) ?_
    refine xk_guardT rfl rfl ?_; refine xk_load (by kernel_rfl) rfl (Rd.roc (by simp) h0) (by decide) ?_
    refine xk_guardT rfl rfl ?_; refine xk_len (el := 41) (by kernel_rfl) rfl (by decide) ?_
    refine xk_guardT rfl rfl ?_; refine xk_lss rfl rfl (by decide) ?_
    (first | refine xk_pickT rfl rfl (by decide) ?_ | refine xk_pickF rfl rfl (by decide) ?_)
    refine xk_assign rfl (by decide) ?_
    refine XK.nil ?_
    (repeat (first | refine XK.thenN ?_ | refine XK.thenE ?_ | refine XK.thenR ?_ | refine XK.inN ?_ | refine XK.inE ?_ | refine XK.inR ?_ | refine XK.inF rfl ?_))
    refine XK.ret ?_
    (repeat (first | refine XK.thenN ?_ | refine XK.thenE ?_ | refine XK.thenR ?_ | refine XK.inN ?_ | refine XK.inE ?_ | refine XK.inR ?_ | refine XK.inF rfl ?_))
    refine XK.ret1 rfl rfl fun w1 st => ⟨?_, st.below (by simp)⟩
    have e1 : decide (0 ≤ dev ∧ dev < (n : Int)) = decide (dev < (n : Int)) := by by_cases h : dev < (n : Int) <;> simp [h]; omega
    rw [e1]
  ·
    refine xk_guardF rfl rfl rfl (by decide) ?_
    refine xk_guardF rfl rfl rfl (by decide) ?_
    refine xk_guardF rfl rfl rfl (by decide) ?_
    refine xk_guardF rfl rfl rfl (by decide) ?_
    refine xk_guardF rfl rfl rfl (by decide) ?_
    refine xk_guardF rfl rfl rfl (by decide) ?_
    refine xk_guardF rfl rfl rfl (by decide) ?_
    (first | refine xk_pickT rfl rfl (by decide) ?_ | refine xk_pickF rfl rfl (by decide) ?_)
    refine xk_assign rfl (by decide) ?_
    refine XK.nil ?_
    (repeat (first | refine XK.thenN ?_ | refine XK.thenE ?_ | refine XK.thenR ?_ | refine XK.inN ?_ | refine XK.inE ?_ | refine XK.inR ?_ | refine XK.inF rfl ?_))
    refine XK.ret ?_
    (repeat (first | refine XK.thenN ?_ | refine XK.thenE ?_ | refine XK.thenR ?_ | refine XK.inN ?_ | refine XK.inE ?_ | refine XK.inR ?_ | refine XK.inF rfl ?_))
    refine XK.ret1 rfl rfl fun w1 st => ⟨?_, st.below (by simp)⟩
    have e1 : decide (0 ≤ dev ∧ dev < (n : Int)) = false := by simp; omega
    rw [e1]

theorem get_m (gc gm n k : Nat) (A : Option Addr) (c : Cn) (dev : Int) (w : World) (F : Nat → Prop) (hp : (CntH gc gm (.slice A n k) c).sat F w) (hF : ∀ b, F b → b < w.heap.size) :
    Calls Try.prog 100 #[.pointer (some ⟨gc, 0, none⟩), .int .i64 dev] w (fun y w' => y = .returned (.int .i64 (cget n c dev).1) ∧ ∃ F', (CntH gc gm (.slice A n k) (cget n c dev).2).sat F' w' ∧ Turns w w' F F') := by
  refine XK.enterM (p := CntH gc gm (.slice A n k) c) (F := F) (vs := [.pointer (some ⟨gc, 0, none⟩), .int .i64 dev]) Try.func100 rfl Try.ntmps100 (by simp) hp hF ?_
  unfold CntH
  refine XK.take 0 0 rfl rfl ?_
  dsimp only [List.set]
  refine XK.take 1 1 rfl rfl ?_
  dsimp only [List.set]
  refine XK.seq ?_

  refine XK.region ?_
  refine xk_assign rfl (by decide) ?_
  refine XK.nil ?_
  (repeat (first | refine XK.thenN ?_ | refine XK.thenE ?_ | refine XK.thenR ?_ | refine XK.inN ?_ | refine XK.inE ?_ | refine XK.inR ?_ | refine XK.inF rfl ?_))
  refine XK.seq ?_
  refine XK.block ?_
  refine XK.seq ?_

  refine XK.region ?_
  refine xk_move rfl (by decide) ?_
  refine xk_nilC rfl (by decide) ?_
  refine xk_field (off := 2) (by kernel_rfl) rfl (by decide) ?_
  refine xk_load (by kernel_rfl) rfl (by first | assumption | exact Rd.blk 0 rfl rfl | exact Rd.blk 1 rfl rfl | exact Rd.blk 2 rfl rfl | exact Rd.blk 3 rfl rfl | exact Rd.blk 4 rfl rfl | exact Rd.blk 5 rfl rfl | exact Rd.blk 6 rfl rfl | exact Rd.blk 7 rfl rfl | exact Rd.blk 8 rfl rfl | exact Rd.roc (by simp) (by assumption) | (apply Rd.rocN (by simp); assumption; rfl)) (by decide) ?_
  refine xk_assign rfl (by decide) ?_
  refine XK.nil ?_
  (repeat (first | refine XK.thenN ?_ | refine XK.thenE ?_ | refine XK.thenR ?_ | refine XK.inN ?_ | refine XK.inE ?_ | refine XK.inR ?_ | refine XK.inF rfl ?_))
  refine XK.cond rfl (fun ha => ?_) (fun ha => ?_)
  ·
    refine XK.seq ?_

    refine XK.region ?_
    refine xk_assign rfl (by decide) ?_
    refine XK.nil ?_
    (repeat (first | refine XK.thenN ?_ | refine XK.thenE ?_ | refine XK.thenR ?_ | refine XK.inN ?_ | refine XK.inE ?_ | refine XK.inR ?_ | refine XK.inF rfl ?_))
    refine XK.ret ?_
    (repeat (first | refine XK.thenN ?_ | refine XK.thenE ?_ | refine XK.thenR ?_ | refine XK.inN ?_ | refine XK.inE ?_ | refine XK.inR ?_ | refine XK.inF rfl ?_))
    have hr : cget n c dev = (6, c) := by simp [cget, ha]
    refine XK.give 1 1 rfl rfl ?_
    dsimp only [List.set]
    refine XK.give 0 0 rfl rfl ?_
    dsimp only [List.set]
    refine XK.ret1 rfl rfl fun w1 st => ?_
    rw [hr]
    exact ⟨rfl, st.turns hF (by simp) (i := 0) rfl⟩
  ·
    refine XK.seq ?_

    refine XK.region ?_
    refine xk_move rfl (by decide) ?_
    refine xk_move rfl (by decide) ?_
    refine xk_callR (f := 133) (fi := []) (ca := []) (by kernel_rfl) rfl rfl (by decide) (fun w1 st => known_any gc n k A dev w1 ⟨(st.blk (i := 1) rfl).lt, Rd.blk 1 rfl rfl w1 st⟩) ?_
    (first | refine xk_notD rfl (by decide) ?_ | refine xk_not rfl (by decide) ?_)
    refine xk_assign rfl (by decide) ?_
    refine XK.nil ?_
    (repeat (first | refine XK.thenN ?_ | refine XK.thenE ?_ | refine XK.thenR ?_ | refine XK.inN ?_ | refine XK.inE ?_ | refine XK.inR ?_ | refine XK.inF rfl ?_))
    refine XK.if_ rfl (fun h => ?_) (fun h => ?_)
    ·
      refine XK.seq ?_

      refine XK.region ?_
      refine xk_assign rfl (by decide) ?_
      refine XK.nil ?_
      (repeat (first | refine XK.thenN ?_ | refine XK.thenE ?_ | refine XK.thenR ?_ | refine XK.inN ?_ | refine XK.inE ?_ | refine XK.inR ?_ | refine XK.inF rfl ?_))
      refine XK.ret ?_
      (repeat (first | refine XK.thenN ?_ | refine XK.thenE ?_ | refine XK.thenR ?_ | refine XK.inN ?_ | refine XK.inE ?_ | refine XK.inR ?_ | refine XK.inF rfl ?_))
      have hr : cget n c dev = (4, c) := by simp only [cget, ha]; simp_all
      refine XK.give 1 1 rfl rfl ?_
      dsimp only [List.set]
      refine XK.give 0 0 rfl rfl ?_
      dsimp only [List.set]
      refine XK.ret1 rfl rfl fun w1 st => ?_
      rw [hr]
      exact ⟨rfl, st.turns hF (by simp) (i := 0) rfl⟩
    ·
      refine XK.seq ?_

      refine XK.region ?_
      refine xk_move rfl (by decide) ?_
      refine xk_nilC rfl (by decide) ?_
      refine xk_field (off := 1) (by kernel_rfl) rfl (by decide) ?_
      refine xk_load (by kernel_rfl) rfl (by first | assumption | exact Rd.blk 0 rfl rfl | exact Rd.blk 1 rfl rfl | exact Rd.blk 2 rfl rfl | exact Rd.blk 3 rfl rfl | exact Rd.blk 4 rfl rfl | exact Rd.blk 5 rfl rfl | exact Rd.blk 6 rfl rfl | exact Rd.blk 7 rfl rfl | exact Rd.blk 8 rfl rfl | exact Rd.roc (by simp) (by assumption) | (apply Rd.rocN (by simp); assumption; rfl)) (by decide) ?_
      refine xk_move rfl (by decide) ?_
      refine xk_lookup (kt := 3) (et := 3) (kd := .i64) (z := .int .i64 0) (l := cntL c.l) false (by kernel_rfl) (by kernel_rfl) (by kernel_rfl) rfl rfl (fun w1 st => st.map (i := 0) rfl) (by decide) ?_
      simp only [Bool.false_eq_true, if_false, mget_cnt]
      refine xk_geq rfl rfl (by decide) ?_
      refine xk_assign rfl (by decide) ?_
      refine XK.nil ?_
      (repeat (first | refine XK.thenN ?_ | refine XK.thenE ?_ | refine XK.thenR ?_ | refine XK.inN ?_ | refine XK.inE ?_ | refine XK.inR ?_ | refine XK.inF rfl ?_))
      refine XK.if_ rfl (fun h => ?_) (fun h => ?_)
      ·
        refine XK.seq ?_

        refine XK.region ?_
        refine xk_assign rfl (by decide) ?_
        refine XK.nil ?_
        (repeat (first | refine XK.thenN ?_ | refine XK.thenE ?_ | refine XK.thenR ?_ | refine XK.inN ?_ | refine XK.inE ?_ | refine XK.inR ?_ | refine XK.inF rfl ?_))
        refine XK.ret ?_
        (repeat (first | refine XK.thenN ?_ | refine XK.thenE ?_ | refine XK.thenR ?_ | refine XK.inN ?_ | refine XK.inE ?_ | refine XK.inR ?_ | refine XK.inF rfl ?_))
        have hr : cget n c dev = (8, c) := by simp only [cget, ha]; simp_all
        refine XK.give 1 1 rfl rfl ?_
        dsimp only [List.set]
        refine XK.give 0 0 rfl rfl ?_
        dsimp only [List.set]
        refine XK.ret1 rfl rfl fun w1 st => ?_
        rw [hr]
        exact ⟨rfl, st.turns hF (by simp) (i := 0) rfl⟩
      ·
        refine XK.skip ?_
        (repeat (first | refine XK.thenN ?_ | refine XK.thenE ?_ | refine XK.thenR ?_ | refine XK.inN ?_ | refine XK.inE ?_ | refine XK.inR ?_ | refine XK.inF rfl ?_))
        refine XK.seq ?_

        refine XK.region ?_
        refine xk_move rfl (by decide) ?_
        refine xk_nilC rfl (by decide) ?_
        refine xk_field (off := 1) (by kernel_rfl) rfl (by decide) ?_
        refine xk_load (by kernel_rfl) rfl (by first | assumption | exact Rd.blk 0 rfl rfl | exact Rd.blk 1 rfl rfl | exact Rd.blk 2 rfl rfl | exact Rd.blk 3 rfl rfl | exact Rd.blk 4 rfl rfl | exact Rd.blk 5 rfl rfl | exact Rd.blk 6 rfl rfl | exact Rd.blk 7 rfl rfl | exact Rd.blk 8 rfl rfl | exact Rd.roc (by simp) (by assumption) | (apply Rd.rocN (by simp); assumption; rfl)) (by decide) ?_
        refine xk_move rfl (by decide) ?_
        refine xk_lookup (kt := 3) (et := 3) (kd := .i64) (z := .int .i64 0) (l := cntL c.l) false (by kernel_rfl) (by kernel_rfl) (by kernel_rfl) rfl rfl (fun w1 st => st.map (i := 0) rfl) (by decide) ?_
        simp only [Bool.false_eq_true, if_false, mget_cnt]
        refine xk_add rfl rfl rfl (by decide) ?_
        refine xk_mapUpdate (kt := 3) (et := 3) (kd := .i64) (l := cntL c.l) 0 (by kernel_rfl) (by kernel_rfl) rfl rfl rfl rfl ?_
        rw [mset_cnt]
        dsimp only [List.set]
        refine XK.nil ?_
        (repeat (first | refine XK.thenN ?_ | refine XK.thenE ?_ | refine XK.thenR ?_ | refine XK.inN ?_ | refine XK.inE ?_ | refine XK.inR ?_ | refine XK.inF rfl ?_))
        refine XK.seq ?_

        refine XK.region ?_
        refine xk_assign rfl (by decide) ?_
        refine XK.nil ?_
        (repeat (first | refine XK.thenN ?_ | refine XK.thenE ?_ | refine XK.thenR ?_ | refine XK.inN ?_ | refine XK.inE ?_ | refine XK.inR ?_ | refine XK.inF rfl ?_))
        refine XK.ret ?_
        (repeat (first | refine XK.thenN ?_ | refine XK.thenE ?_ | refine XK.thenR ?_ | refine XK.inN ?_ | refine XK.inE ?_ | refine XK.inR ?_ | refine XK.inF rfl ?_))
        have hr : cget n c dev = (0, ⟨setC c.l dev (IntKind.i64.wrap (getC c.l dev + 1)), c.asl⟩) := by simp only [cget, ha]; simp_all
        refine XK.give 1 1 rfl rfl ?_
        dsimp only [List.set]
        refine XK.give 0 0 rfl rfl ?_
        dsimp only [List.set]
        refine XK.ret1 rfl rfl fun w1 st => ?_
        rw [hr]
        exact ⟨rfl, st.turns hF (by simp) (i := 0) rfl⟩

theorem put_m (gc gm n k : Nat) (A : Option Addr) (c : Cn) (dev : Int) (w : World) (F : Nat → Prop) (hp : (CntH gc gm (.slice A n k) c).sat F w) (hF : ∀ b, F b → b < w.heap.size) :
    Calls Try.prog 101 #[.pointer (some ⟨gc, 0, none⟩), .int .i64 dev] w (fun y w' => y = .returned (.int .i64 (cput n c dev).1) ∧ ∃ F', (CntH gc gm (.slice A n k) (cput n c dev).2).sat F' w' ∧ Turns w w' F F') := by
  refine XK.enterM (p := CntH gc gm (.slice A n k) c) (F := F) (vs := [.pointer (some ⟨gc, 0, none⟩), .int .i64 dev]) Try.func101 rfl Try.ntmps101 (by simp) hp hF ?_
  unfold CntH
  refine XK.take 0 0 rfl rfl ?_
  dsimp only [List.set]
  refine XK.take 1 1 rfl rfl ?_
  dsimp only [List.set]
  refine XK.seq ?_

  refine XK.region ?_
  refine xk_assign rfl (by decide) ?_
  refine XK.nil ?_
  (repeat (first | refine XK.thenN ?_ | refine XK.thenE ?_ | refine XK.thenR ?_ | refine XK.inN ?_ | refine XK.inE ?_ | refine XK.inR ?_ | refine XK.inF rfl ?_))
  refine XK.seq ?_
  refine XK.block ?_
  refine XK.seq ?_

  refine XK.region ?_
  refine xk_move rfl (by decide) ?_
  refine xk_nilC rfl (by decide) ?_
  refine xk_field (off := 2) (by kernel_rfl) rfl (by decide) ?_
  refine xk_load (by kernel_rfl) rfl (by first | assumption | exact Rd.blk 0 rfl rfl | exact Rd.blk 1 rfl rfl | exact Rd.blk 2 rfl rfl | exact Rd.blk 3 rfl rfl | exact Rd.blk 4 rfl rfl | exact Rd.blk 5 rfl rfl | exact Rd.blk 6 rfl rfl | exact Rd.blk 7 rfl rfl | exact Rd.blk 8 rfl rfl | exact Rd.roc (by simp) (by assumption) | (apply Rd.rocN (by simp); assumption; rfl)) (by decide) ?_
  refine xk_assign rfl (by decide) ?_
  refine XK.nil ?_
  (repeat (first | refine XK.thenN ?_ | refine XK.thenE ?_ | refine XK.thenR ?_ | refine XK.inN ?_ | refine XK.inE ?_ | refine XK.inR ?_ | refine XK.inF rfl ?_))
  refine XK.cond rfl (fun ha => ?_) (fun ha => ?_)
  ·
    refine XK.seq ?_

    refine XK.region ?_
    refine xk_assign rfl (by decide) ?_
    refine XK.nil ?_
    (repeat (first | refine XK.thenN ?_ | refine XK.thenE ?_ | refine XK.thenR ?_ | refine XK.inN ?_ | refine XK.inE ?_ | refine XK.inR ?_ | refine XK.inF rfl ?_))
    refine XK.ret ?_
    (repeat (first | refine XK.thenN ?_ | refine XK.thenE ?_ | refine XK.thenR ?_ | refine XK.inN ?_ | refine XK.inE ?_ | refine XK.inR ?_ | refine XK.inF rfl ?_))
    have hr : cput n c dev = (6, c) := by simp [cput, ha]
    refine XK.give 1 1 rfl rfl ?_
    dsimp only [List.set]
    refine XK.give 0 0 rfl rfl ?_
    dsimp only [List.set]
    refine XK.ret1 rfl rfl fun w1 st => ?_
    rw [hr]
    exact ⟨rfl, st.turns hF (by simp) (i := 0) rfl⟩
  ·
    refine XK.seq ?_

    refine XK.region ?_
    refine xk_move rfl (by decide) ?_
    refine xk_move rfl (by decide) ?_
    refine xk_callR (f := 133) (fi := []) (ca := []) (by kernel_rfl) rfl rfl (by decide) (fun w1 st => known_any gc n k A dev w1 ⟨(st.blk (i := 1) rfl).lt, Rd.blk 1 rfl rfl w1 st⟩) ?_
    (first | refine xk_notD rfl (by decide) ?_ | refine xk_not rfl (by decide) ?_)
    refine xk_assign rfl (by decide) ?_
    refine XK.nil ?_
    (repeat (first | refine XK.thenN ?_ | refine XK.thenE ?_ | refine XK.thenR ?_ | refine XK.inN ?_ | refine XK.inE ?_ | refine XK.inR ?_ | refine XK.inF rfl ?_))
    refine XK.if_ rfl (fun h => ?_) (fun h => ?_)
    ·
      refine XK.seq ?_

      refine XK.region ?_
      refine xk_assign rfl (by decide) ?_
      refine XK.nil ?_
      (repeat (first | refine XK.thenN ?_ | refine XK.thenE ?_ | refine XK.thenR ?_ | refine XK.inN ?_ | refine XK.inE ?_ | refine XK.inR ?_ | refine XK.inF rfl ?_))
      refine XK.ret ?_
      (repeat (first | refine XK.thenN ?_ | refine XK.thenE ?_ | refine XK.thenR ?_ | refine XK.inN ?_ | refine XK.inE ?_ | refine XK.inR ?_ | refine XK.inF rfl ?_))
      have hr : cput n c dev = (4, c) := by simp only [cput, ha]; simp_all
      refine XK.give 1 1 rfl rfl ?_
      dsimp only [List.set]
      refine XK.give 0 0 rfl rfl ?_
      dsimp only [List.set]
      refine XK.ret1 rfl rfl fun w1 st => ?_
      rw [hr]
      exact ⟨rfl, st.turns hF (by simp) (i := 0) rfl⟩
    ·
      refine XK.seq ?_

      refine XK.region ?_
      refine xk_move rfl (by decide) ?_
      refine xk_nilC rfl (by decide) ?_
      refine xk_field (off := 1) (by kernel_rfl) rfl (by decide) ?_
      refine xk_load (by kernel_rfl) rfl (by first | assumption | exact Rd.blk 0 rfl rfl | exact Rd.blk 1 rfl rfl | exact Rd.blk 2 rfl rfl | exact Rd.blk 3 rfl rfl | exact Rd.blk 4 rfl rfl | exact Rd.blk 5 rfl rfl | exact Rd.blk 6 rfl rfl | exact Rd.blk 7 rfl rfl | exact Rd.blk 8 rfl rfl | exact Rd.roc (by simp) (by assumption) | (apply Rd.rocN (by simp); assumption; rfl)) (by decide) ?_
      refine xk_move rfl (by decide) ?_
      refine xk_lookup (kt := 3) (et := 3) (kd := .i64) (z := .int .i64 0) (l := cntL c.l) false (by kernel_rfl) (by kernel_rfl) (by kernel_rfl) rfl rfl (fun w1 st => st.map (i := 0) rfl) (by decide) ?_
      simp only [Bool.false_eq_true, if_false, mget_cnt]
      refine xk_leq rfl rfl (by decide) ?_
      refine xk_assign rfl (by decide) ?_
      refine XK.nil ?_
      (repeat (first | refine XK.thenN ?_ | refine XK.thenE ?_ | refine XK.thenR ?_ | refine XK.inN ?_ | refine XK.inE ?_ | refine XK.inR ?_ | refine XK.inF rfl ?_))
      refine XK.if_ rfl (fun h => ?_) (fun h => ?_)
      ·
        refine XK.seq ?_

        refine XK.region ?_
        refine xk_assign rfl (by decide) ?_
        refine XK.nil ?_
        (repeat (first | refine XK.thenN ?_ | refine XK.thenE ?_ | refine XK.thenR ?_ | refine XK.inN ?_ | refine XK.inE ?_ | refine XK.inR ?_ | refine XK.inF rfl ?_))
        refine XK.ret ?_
        (repeat (first | refine XK.thenN ?_ | refine XK.thenE ?_ | refine XK.thenR ?_ | refine XK.inN ?_ | refine XK.inE ?_ | refine XK.inR ?_ | refine XK.inF rfl ?_))
        have hr : cput n c dev = (6, c) := by simp only [cput, ha]; simp_all
        refine XK.give 1 1 rfl rfl ?_
        dsimp only [List.set]
        refine XK.give 0 0 rfl rfl ?_
        dsimp only [List.set]
        refine XK.ret1 rfl rfl fun w1 st => ?_
        rw [hr]
        exact ⟨rfl, st.turns hF (by simp) (i := 0) rfl⟩
      ·
        refine XK.skip ?_
        (repeat (first | refine XK.thenN ?_ | refine XK.thenE ?_ | refine XK.thenR ?_ | refine XK.inN ?_ | refine XK.inE ?_ | refine XK.inR ?_ | refine XK.inF rfl ?_))
        refine XK.seq ?_

        refine XK.region ?_
        refine xk_move rfl (by decide) ?_
        refine xk_nilC rfl (by decide) ?_
        refine xk_field (off := 1) (by kernel_rfl) rfl (by decide) ?_
        refine xk_load (by kernel_rfl) rfl (by first | assumption | exact Rd.blk 0 rfl rfl | exact Rd.blk 1 rfl rfl | exact Rd.blk 2 rfl rfl | exact Rd.blk 3 rfl rfl | exact Rd.blk 4 rfl rfl | exact Rd.blk 5 rfl rfl | exact Rd.blk 6 rfl rfl | exact Rd.blk 7 rfl rfl | exact Rd.blk 8 rfl rfl | exact Rd.roc (by simp) (by assumption) | (apply Rd.rocN (by simp); assumption; rfl)) (by decide) ?_
        refine xk_move rfl (by decide) ?_
        refine xk_lookup (kt := 3) (et := 3) (kd := .i64) (z := .int .i64 0) (l := cntL c.l) false (by kernel_rfl) (by kernel_rfl) (by kernel_rfl) rfl rfl (fun w1 st => st.map (i := 0) rfl) (by decide) ?_
        simp only [Bool.false_eq_true, if_false, mget_cnt]
        refine xk_sub rfl rfl rfl (by decide) ?_
        refine xk_mapUpdate (kt := 3) (et := 3) (kd := .i64) (l := cntL c.l) 0 (by kernel_rfl) (by kernel_rfl) rfl rfl rfl rfl ?_
        rw [mset_cnt]
        dsimp only [List.set]
        refine XK.nil ?_
        (repeat (first | refine XK.thenN ?_ | refine XK.thenE ?_ | refine XK.thenR ?_ | refine XK.inN ?_ | refine XK.inE ?_ | refine XK.inR ?_ | refine XK.inF rfl ?_))
        refine XK.seq ?_

        refine XK.region ?_
        refine xk_assign rfl (by decide) ?_
        refine XK.nil ?_
        (repeat (first | refine XK.thenN ?_ | refine XK.thenE ?_ | refine XK.thenR ?_ | refine XK.inN ?_ | refine XK.inE ?_ | refine XK.inR ?_ | refine XK.inF rfl ?_))
        refine XK.ret ?_
        (repeat (first | refine XK.thenN ?_ | refine XK.thenE ?_ | refine XK.thenR ?_ | refine XK.inN ?_ | refine XK.inE ?_ | refine XK.inR ?_ | refine XK.inF rfl ?_))
        have hr : cput n c dev = (0, ⟨setC c.l dev (IntKind.i64.wrap (getC c.l dev - 1)), c.asl⟩) := by simp only [cput, ha]; simp_all
        refine XK.give 1 1 rfl rfl ?_
        dsimp only [List.set]
        refine XK.give 0 0 rfl rfl ?_
        dsimp only [List.set]
        refine XK.ret1 rfl rfl fun w1 st => ?_
        rw [hr]
        exact ⟨rfl, st.turns hF (by simp) (i := 0) rfl⟩

theorem sus_m (gc gm n k : Nat) (A : Option Addr) (c : Cn)  (w : World) (F : Nat → Prop) (hp : (CntH gc gm (.slice A n k) c).sat F w) (hF : ∀ b, F b → b < w.heap.size) :
    Calls Try.prog 102 #[.pointer (some ⟨gc, 0, none⟩)] w (fun y w' => y = .returned (.int .i64 (csus c).1) ∧ ∃ F', (CntH gc gm (.slice A n k) (csus c).2).sat F' w' ∧ Turns w w' F F') := by
  refine XK.enterM (p := CntH gc gm (.slice A n k) c) (F := F) (vs := [.pointer (some ⟨gc, 0, none⟩)]) Try.func102 rfl Try.ntmps102 (by simp) hp hF ?_
  unfold CntH
  refine XK.take 0 0 rfl rfl ?_
  dsimp only [List.set]
  refine XK.take 1 1 rfl rfl ?_
  dsimp only [List.set]
  refine XK.seq ?_

  refine XK.region ?_
  refine xk_assign rfl (by decide) ?_
  refine XK.nil ?_
  (repeat (first | refine XK.thenN ?_ | refine XK.thenE ?_ | refine XK.thenR ?_ | refine XK.inN ?_ | refine XK.inE ?_ | refine XK.inR ?_ | refine XK.inF rfl ?_))
  refine XK.seq ?_
  refine XK.seq ?_

  refine XK.region ?_
  refine xk_move rfl (by decide) ?_
  refine xk_nilC rfl (by decide) ?_
  refine xk_field (off := 2) (by kernel_rfl) rfl (by decide) ?_
  refine xk_load (by kernel_rfl) rfl (by first | assumption | exact Rd.blk 0 rfl rfl | exact Rd.blk 1 rfl rfl | exact Rd.blk 2 rfl rfl | exact Rd.blk 3 rfl rfl | exact Rd.blk 4 rfl rfl | exact Rd.blk 5 rfl rfl | exact Rd.blk 6 rfl rfl | exact Rd.blk 7 rfl rfl | exact Rd.blk 8 rfl rfl | exact Rd.roc (by simp) (by assumption) | (apply Rd.rocN (by simp); assumption; rfl)) (by decide) ?_
  refine XK.nil ?_
  (repeat (first | refine XK.thenN ?_ | refine XK.thenE ?_ | refine XK.thenR ?_ | refine XK.inN ?_ | refine XK.inE ?_ | refine XK.inR ?_ | refine XK.inF rfl ?_))
  refine XK.cond rfl (fun ha => ?_) (fun ha => ?_)
  ·
    refine XK.seq ?_

    refine XK.region ?_
    refine xk_assign rfl (by decide) ?_
    refine XK.nil ?_
    (repeat (first | refine XK.thenN ?_ | refine XK.thenE ?_ | refine XK.thenR ?_ | refine XK.inN ?_ | refine XK.inE ?_ | refine XK.inR ?_ | refine XK.inF rfl ?_))
    refine XK.ret ?_
    (repeat (first | refine XK.thenN ?_ | refine XK.thenE ?_ | refine XK.thenR ?_ | refine XK.inN ?_ | refine XK.inE ?_ | refine XK.inR ?_ | refine XK.inF rfl ?_))
    have hr : csus c = (6, c) := by simp_all [csus]
    refine XK.give 1 1 rfl rfl ?_
    dsimp only [List.set]
    refine XK.give 0 0 rfl rfl ?_
    dsimp only [List.set]
    refine XK.ret1 rfl rfl fun w1 st => ?_
    rw [hr]
    exact ⟨rfl, st.turns hF (by simp) (i := 0) rfl⟩
  ·
    refine XK.skip ?_
    (repeat (first | refine XK.thenN ?_ | refine XK.thenE ?_ | refine XK.thenR ?_ | refine XK.inN ?_ | refine XK.inE ?_ | refine XK.inR ?_ | refine XK.inF rfl ?_))
    refine XK.seq ?_

    refine XK.region ?_
    refine xk_move rfl (by decide) ?_
    refine xk_nilC rfl (by decide) ?_
    refine xk_field (off := 2) (by kernel_rfl) rfl (by decide) ?_
    (first | (refine xk_store 0 rfl (by kernel_rfl) rfl rfl rfl (by first | (simp; done) | (simp [Value.cells]; done)) ?_) | (refine xk_store 1 rfl (by kernel_rfl) rfl rfl rfl (by first | (simp; done) | (simp [Value.cells]; done)) ?_) | (refine xk_store 2 rfl (by kernel_rfl) rfl rfl rfl (by first | (simp; done) | (simp [Value.cells]; done)) ?_) | (refine xk_store 3 rfl (by kernel_rfl) rfl rfl rfl (by first | (simp; done) | (simp [Value.cells]; done)) ?_) | (refine xk_store 4 rfl (by kernel_rfl) rfl rfl rfl (by first | (simp; done) | (simp [Value.cells]; done)) ?_) | (refine xk_store 5 rfl (by kernel_rfl) rfl rfl rfl (by first | (simp; done) | (simp [Value.cells]; done)) ?_) | (refine xk_store 6 rfl (by kernel_rfl) rfl rfl rfl (by first | (simp; done) | (simp [Value.cells]; done)) ?_) | (refine xk_store 7 rfl (by kernel_rfl) rfl rfl rfl (by first | (simp; done) | (simp [Value.cells]; done)) ?_) | (refine xk_store 8 rfl (by kernel_rfl) rfl rfl rfl (by first | (simp; done) | (simp [Value.cells]; done)) ?_)); dsimp only [List.set]
    refine XK.nil ?_
    (repeat (first | refine XK.thenN ?_ | refine XK.thenE ?_ | refine XK.thenR ?_ | refine XK.inN ?_ | refine XK.inE ?_ | refine XK.inR ?_ | refine XK.inF rfl ?_))
    refine XK.seq ?_

    refine XK.region ?_
    refine xk_assign rfl (by decide) ?_
    refine XK.nil ?_
    (repeat (first | refine XK.thenN ?_ | refine XK.thenE ?_ | refine XK.thenR ?_ | refine XK.inN ?_ | refine XK.inE ?_ | refine XK.inR ?_ | refine XK.inF rfl ?_))
    refine XK.ret ?_
    (repeat (first | refine XK.thenN ?_ | refine XK.thenE ?_ | refine XK.thenR ?_ | refine XK.inN ?_ | refine XK.inE ?_ | refine XK.inR ?_ | refine XK.inF rfl ?_))
    have hr : csus c = (0, ⟨c.l, true⟩) := by simp_all [csus]
    refine XK.give 1 1 rfl rfl ?_
    dsimp only [List.set]
    refine XK.give 0 0 rfl rfl ?_
    dsimp only [List.set]
    refine XK.ret1 rfl rfl fun w1 st => ?_
    rw [hr]
    exact ⟨rfl, st.turns hF (by simp) (i := 0) rfl⟩

theorem res_m (gc gm n k : Nat) (A : Option Addr) (c : Cn)  (w : World) (F : Nat → Prop) (hp : (CntH gc gm (.slice A n k) c).sat F w) (hF : ∀ b, F b → b < w.heap.size) :
    Calls Try.prog 103 #[.pointer (some ⟨gc, 0, none⟩)] w (fun y w' => y = .returned (.int .i64 (cres c).1) ∧ ∃ F', (CntH gc gm (.slice A n k) (cres c).2).sat F' w' ∧ Turns w w' F F') := by
  refine XK.enterM (p := CntH gc gm (.slice A n k) c) (F := F) (vs := [.pointer (some ⟨gc, 0, none⟩)]) Try.func103 rfl Try.ntmps103 (by simp) hp hF ?_
  unfold CntH
  refine XK.take 0 0 rfl rfl ?_
  dsimp only [List.set]
  refine XK.take 1 1 rfl rfl ?_
  dsimp only [List.set]
  refine XK.seq ?_

  refine XK.region ?_
  refine xk_assign rfl (by decide) ?_
  refine XK.nil ?_
  (repeat (first | refine XK.thenN ?_ | refine XK.thenE ?_ | refine XK.thenR ?_ | refine XK.inN ?_ | refine XK.inE ?_ | refine XK.inR ?_ | refine XK.inF rfl ?_))
  refine XK.seq ?_
  refine XK.seq ?_

  refine XK.region ?_
  refine xk_move rfl (by decide) ?_
  refine xk_nilC rfl (by decide) ?_
  refine xk_field (off := 2) (by kernel_rfl) rfl (by decide) ?_
  refine xk_load (by kernel_rfl) rfl (by first | assumption | exact Rd.blk 0 rfl rfl | exact Rd.blk 1 rfl rfl | exact Rd.blk 2 rfl rfl | exact Rd.blk 3 rfl rfl | exact Rd.blk 4 rfl rfl | exact Rd.blk 5 rfl rfl | exact Rd.blk 6 rfl rfl | exact Rd.blk 7 rfl rfl | exact Rd.blk 8 rfl rfl | exact Rd.roc (by simp) (by assumption) | (apply Rd.rocN (by simp); assumption; rfl)) (by decide) ?_
  (first | refine xk_notD rfl (by decide) ?_ | refine xk_not rfl (by decide) ?_)
  refine XK.nil ?_
  (repeat (first | refine XK.thenN ?_ | refine XK.thenE ?_ | refine XK.thenR ?_ | refine XK.inN ?_ | refine XK.inE ?_ | refine XK.inR ?_ | refine XK.inF rfl ?_))
  refine XK.cond rfl (fun ha => ?_) (fun ha => ?_)
  ·
    refine XK.seq ?_

    refine XK.region ?_
    refine xk_assign rfl (by decide) ?_
    refine XK.nil ?_
    (repeat (first | refine XK.thenN ?_ | refine XK.thenE ?_ | refine XK.thenR ?_ | refine XK.inN ?_ | refine XK.inE ?_ | refine XK.inR ?_ | refine XK.inF rfl ?_))
    refine XK.ret ?_
    (repeat (first | refine XK.thenN ?_ | refine XK.thenE ?_ | refine XK.thenR ?_ | refine XK.inN ?_ | refine XK.inE ?_ | refine XK.inR ?_ | refine XK.inF rfl ?_))
    have hr : cres c = (6, c) := by simp_all [cres]
    refine XK.give 1 1 rfl rfl ?_
    dsimp only [List.set]
    refine XK.give 0 0 rfl rfl ?_
    dsimp only [List.set]
    refine XK.ret1 rfl rfl fun w1 st => ?_
    rw [hr]
    exact ⟨rfl, st.turns hF (by simp) (i := 0) rfl⟩
  ·
    refine XK.skip ?_
    (repeat (first | refine XK.thenN ?_ | refine XK.thenE ?_ | refine XK.thenR ?_ | refine XK.inN ?_ | refine XK.inE ?_ | refine XK.inR ?_ | refine XK.inF rfl ?_))
    refine XK.seq ?_

    refine XK.region ?_
    refine xk_move rfl (by decide) ?_
    refine xk_nilC rfl (by decide) ?_
    refine xk_field (off := 2) (by kernel_rfl) rfl (by decide) ?_
    (first | (refine xk_store 0 rfl (by kernel_rfl) rfl rfl rfl (by first | (simp; done) | (simp [Value.cells]; done)) ?_) | (refine xk_store 1 rfl (by kernel_rfl) rfl rfl rfl (by first | (simp; done) | (simp [Value.cells]; done)) ?_) | (refine xk_store 2 rfl (by kernel_rfl) rfl rfl rfl (by first | (simp; done) | (simp [Value.cells]; done)) ?_) | (refine xk_store 3 rfl (by kernel_rfl) rfl rfl rfl (by first | (simp; done) | (simp [Value.cells]; done)) ?_) | (refine xk_store 4 rfl (by kernel_rfl) rfl rfl rfl (by first | (simp; done) | (simp [Value.cells]; done)) ?_) | (refine xk_store 5 rfl (by kernel_rfl) rfl rfl rfl (by first | (simp; done) | (simp [Value.cells]; done)) ?_) | (refine xk_store 6 rfl (by kernel_rfl) rfl rfl rfl (by first | (simp; done) | (simp [Value.cells]; done)) ?_) | (refine xk_store 7 rfl (by kernel_rfl) rfl rfl rfl (by first | (simp; done) | (simp [Value.cells]; done)) ?_) | (refine xk_store 8 rfl (by kernel_rfl) rfl rfl rfl (by first | (simp; done) | (simp [Value.cells]; done)) ?_)); dsimp only [List.set]
    refine XK.nil ?_
    (repeat (first | refine XK.thenN ?_ | refine XK.thenE ?_ | refine XK.thenR ?_ | refine XK.inN ?_ | refine XK.inE ?_ | refine XK.inR ?_ | refine XK.inF rfl ?_))
    refine XK.seq ?_

    refine XK.region ?_
    refine xk_assign rfl (by decide) ?_
    refine XK.nil ?_
    (repeat (first | refine XK.thenN ?_ | refine XK.thenE ?_ | refine XK.thenR ?_ | refine XK.inN ?_ | refine XK.inE ?_ | refine XK.inR ?_ | refine XK.inF rfl ?_))
    refine XK.ret ?_
    (repeat (first | refine XK.thenN ?_ | refine XK.thenE ?_ | refine XK.thenR ?_ | refine XK.inN ?_ | refine XK.inE ?_ | refine XK.inR ?_ | refine XK.inF rfl ?_))
    have hr : cres c = (0, ⟨c.l, false⟩) := by simp_all [cres]
    refine XK.give 1 1 rfl rfl ?_
    dsimp only [List.set]
    refine XK.give 0 0 rfl rfl ?_
    dsimp only [List.set]
    refine XK.ret1 rfl rfl fun w1 st => ?_
    rw [hr]
    exact ⟨rfl, st.turns hF (by simp) (i := 0) rfl⟩

theorem asleep_any (gc : Nat) (b : Bool) (w : World) (h2 : ROc w gc 2 (.bool b)) : Calls Try.prog 104 #[.pointer (some ⟨gc, 0, none⟩)] w (Rt (.bool b) w) := by
  refine XK.enter (vs := [.pointer (some ⟨gc, 0, none⟩)]) Try.func104 rfl Try.ntmps104 (by simp) ?_
  refine XK.seq ?_

  refine XK.region ?_
  refine xk_assign rfl (by decide) ?_
  refine XK.nil ?_
  (repeat (first | refine XK.thenN ?_ | refine XK.thenE ?_ | refine XK.thenR ?_ | refine XK.inN ?_ | refine XK.inE ?_ | refine XK.inR ?_ | refine XK.inF rfl ?_))
  refine XK.seq ?_

  refine XK.region ?_
  refine xk_move rfl (by decide) ?_
  refine xk_nilC rfl (by decide) ?_
  refine xk_field (off := 2) (by kernel_rfl) rfl (by decide) ?_
  refine xk_load (by kernel_rfl) rfl (Rd.roc (by simp) h2) (by decide) ?_
  refine xk_assign rfl (by decide) ?_
  refine XK.nil ?_
  (repeat (first | refine XK.thenN ?_ | refine XK.thenE ?_ | refine XK.thenR ?_ | refine XK.inN ?_ | refine XK.inE ?_ | refine XK.inR ?_ | refine XK.inF rfl ?_))
  refine XK.ret ?_
  (repeat (first | refine XK.thenN ?_ | refine XK.thenE ?_ | refine XK.thenR ?_ | refine XK.inN ?_ | refine XK.inE ?_ | refine XK.inR ?_ | refine XK.inF rfl ?_))
  exact XK.ret1 rfl rfl fun w1 st => ⟨rfl, st.below (by simp)⟩

def NewOk (s : Soc) (v : Value) (hs : List HP) (q : Piece) : Prop := ∃ gc gm A k, v = .tuple #[.pointer (some ⟨gc, 0, none⟩), .int .i64 0] ∧ hs = [CntH gc gm (.slice A (needsG s).length k) ⟨[], false⟩] ∧ GrS q A (needsG s).length (needsG s)
theorem new_ok (s : Soc) (A1 A2 A3 A4 : Option Addr) (n1 k1 n2 k2 n3 k3 n4 k4 : Nat) (w : World) (hW : SocW w s A1 n1 A2 n2 A3 n3 A4 n4) (hchk : checkS s = 0) :
    Calls Try.prog 53 #[.agg #[.slice A1 n1 k1, .slice A2 n2 k2, .slice A3 n3 k3, .slice A4 n4 k4]] w (fun y w' => (∃ v hs q, y = .returned v ∧ q.w = w' ∧ NewOk s v hs q ∧ New w hs q) ∧ Below w.heap.size w w') := by
  refine XK.enter (vs := [.agg #[.slice A1 n1 k1, .slice A2 n2 k2, .slice A3 n3 k3, .slice A4 n4 k4]]) Try.func53 rfl Try.ntmps53 (by simp) ?_
  refine XK.seq ?_

  refine XK.region ?_
  refine xk_box rfl (by decide) fun g1 => ?_
  refine xk_assign rfl (by decide) ?_
  refine xk_assign rfl (by decide) ?_
  refine XK.nil ?_
  (repeat (first | refine XK.thenN ?_ | refine XK.thenE ?_ | refine XK.thenR ?_ | refine XK.inN ?_ | refine XK.inE ?_ | refine XK.inR ?_ | refine XK.inF rfl ?_))
  refine XK.seq ?_
  refine XK.seq ?_

  refine XK.region ?_
  refine xk_loadN 4 (by kernel_rfl) rfl (by first | assumption | exact RdN.whole 0 rfl | exact RdN.whole 1 rfl | exact RdN.whole 2 rfl | exact RdN.whole 3 rfl | exact RdN.whole 4 rfl | exact RdN.whole 5 rfl | exact RdN.whole 6 rfl | exact RdN.whole 7 rfl | exact RdN.whole 8 rfl | exact RdN.roc (by simp) (by assumption)) rfl (by decide) ?_
  refine xk_callR (f := 43) (fi := []) (ca := []) (by kernel_rfl) rfl rfl (by decide) (fun w1 st => checkS_any s A1 A2 A3 A4 n1 k1 n2 k2 n3 k3 n4 k4 w1 (hW.le (st.started (by simp)))) ?_
  rw [hchk]
  refine xk_assign rfl (by decide) ?_
  refine XK.nil ?_
  (repeat (first | refine XK.thenN ?_ | refine XK.thenE ?_ | refine XK.thenR ?_ | refine XK.inN ?_ | refine XK.inE ?_ | refine XK.inR ?_ | refine XK.inF rfl ?_))
  refine XK.seq ?_

  refine XK.region ?_
  refine xk_move rfl (by decide) ?_
  refine xk_neq rfl rfl (by decide) ?_
  refine XK.nil ?_
  (repeat (first | refine XK.thenN ?_ | refine XK.thenE ?_ | refine XK.thenR ?_ | refine XK.inN ?_ | refine XK.inE ?_ | refine XK.inR ?_ | refine XK.inF rfl ?_))
  refine XK.if_ rfl (fun h => ?_) (fun h => ?_)
  ·
    refine XK.seq ?_

    refine XK.region ?_
    refine xk_move rfl (by decide) ?_
    refine xk_assign rfl (by decide) ?_
    refine xk_assign rfl (by decide) ?_
    refine XK.nil ?_
    (repeat (first | refine XK.thenN ?_ | refine XK.thenE ?_ | refine XK.thenR ?_ | refine XK.inN ?_ | refine XK.inE ?_ | refine XK.inR ?_ | refine XK.inF rfl ?_))
    refine XK.ret ?_
    (repeat (first | refine XK.thenN ?_ | refine XK.thenE ?_ | refine XK.thenR ?_ | refine XK.inN ?_ | refine XK.inE ?_ | refine XK.inR ?_ | refine XK.inF rfl ?_))
    exact absurd rfl h
  ·
    refine XK.skip ?_
    (repeat (first | refine XK.thenN ?_ | refine XK.thenE ?_ | refine XK.thenR ?_ | refine XK.inN ?_ | refine XK.inE ?_ | refine XK.inR ?_ | refine XK.inF rfl ?_))
    refine XK.seq ?_

    refine XK.region ?_
    refine xk_loadN 4 (by kernel_rfl) rfl (by first | assumption | exact RdN.whole 0 rfl | exact RdN.whole 1 rfl | exact RdN.whole 2 rfl | exact RdN.whole 3 rfl | exact RdN.whole 4 rfl | exact RdN.whole 5 rfl | exact RdN.whole 6 rfl | exact RdN.whole 7 rfl | exact RdN.whole 8 rfl | exact RdN.roc (by simp) (by assumption)) rfl (by decide) ?_
    refine xk_call [] (f := 87) (fi := []) (ca := []) (by kernel_rfl) rfl rfl (by decide) (by simp) (GrOk (needsG s)) (fun w1 st => needs_any s A1 A2 A3 A4 n1 k1 n2 k2 n3 k3 n4 k4 w1 (hW.le (st.started (by simp)))) ?_
    rintro _ w1 q1 ⟨Ag, cg, rfl, hgr⟩ hf _ hF1
    have hF1 := hF1 (by simp)
    have hgr := hgr.le hf
    clear hf
    refine xk_makeMap (by decide) fun gm => ?_
    refine xk_buildS (zs := [.slice none 0 0, .map none, .bool false]) (L := [(0, 1), (1, 1), (2, 1)]) (zeroB_of (by kernel_rfl)) (by kernel_rfl) rfl (by simp [fillL, setN, Value.cells]; rfl) (by decide) ?_
    refine xk_box rfl (by decide) fun g2 => ?_
    refine xk_assign rfl (by decide) ?_
    refine xk_assign rfl (by decide) ?_
    refine XK.nil ?_
    (repeat (first | refine XK.thenN ?_ | refine XK.thenE ?_ | refine XK.thenR ?_ | refine XK.inN ?_ | refine XK.inE ?_ | refine XK.inR ?_ | refine XK.inF rfl ?_))
    refine XK.ret ?_
    (repeat (first | refine XK.thenN ?_ | refine XK.thenE ?_ | refine XK.thenR ?_ | refine XK.inN ?_ | refine XK.inE ?_ | refine XK.inR ?_ | refine XK.inF rfl ?_))
    refine XK.pair ?_
    refine XK.still [q1] [] [0] (by simp) rfl (by decide) (by decide) fun q _ hLe hfr => ?_
    refine XK.ret2 rfl rfl rfl fun w1 st => ⟨⟨_, _, ⟨w1, q.Z⟩, rfl, rfl, ⟨g2, gm, Ag, cg, rfl, rfl, (hgr.le (hLe q1 (by simp))).le (fun b hb => ⟨hb, ?_⟩)⟩, st.newR (by simp) (by simp) (hfr (by simp) (fun p hp => by simp at hp; subst hp; exact hF1))⟩, st.below (by simp)⟩
    exact st.ro (by simp : q ∈ _) hb

end Go.Proofs.Ytbgibbbggajgaaa
