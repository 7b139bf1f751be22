/- package count: how often devices were got. -/
import Derived.Test.YtbgibbbggajgaaaGreatAuditTellsK3
namespace Go.Proofs.YtbgibbbggajgaaaGreat
set_option linter.all false
open Go.RowKit
/-- counts, in plain words -/
structure Cn where
  l : List (Int × Int)
  asl : Bool
def Cn.up (c : Cn) (dev k : Int) : Cn := ⟨setC c.l dev (IntKind.i64.wrap (getC c.l dev + k)), c.asl⟩
def cget (nd : Nat) (c : Cn) (dev : Int) : Int × Cn := if c.asl then (6, c) else if ¬ (0 ≤ dev ∧ dev < nd) then (4, c) else if 7 ≤ getC c.l dev then (8, c) else (0, ⟨setC c.l dev (IntKind.i64.wrap (getC c.l dev + 1)), c.asl⟩)
def cput (nd : Nat) (c : Cn) (dev : Int) : Int × Cn := if c.asl then (6, c) else if ¬ (0 ≤ dev ∧ dev < nd) then (4, c) else if getC c.l dev ≤ 0 then (6, c) else (0, ⟨setC c.l dev (IntKind.i64.wrap (getC c.l dev - 1)), c.asl⟩)
def csus (c : Cn) : Int × Cn := if c.asl then (6, c) else (0, ⟨c.l, true⟩)
def cres (c : Cn) : Int × Cn := if c.asl then (0, ⟨c.l, false⟩) else (6, c)
/-- .. and where they lie -/
def CntH (gc gm : Nat) (v : Value) (c : Cn) : HP := HP.many [HP.blk gc 146 [v, .map (some gm), .bool c.asl], HP.map gm (cntL c.l)]

theorem known_any (gc n k : Nat) (A : Option Addr) (dev : Int) (w : World) (h0 : ROc w gc 0 (.slice A n k)) :
    Calls Tryz.prog 117 #[.pointer (some ⟨gc, 0, none⟩), .int .i64 dev] w (Rt (.bool (decide (0 ≤ dev ∧ dev < n))) w) := by
  refine XK.enter (vs := [.pointer (some ⟨gc, 0, none⟩), .int .i64 dev]) Tryz.func117 rfl Tryz.ntmps117 (by simp) ?_
  refine XK.seq ?_

  refine XK.region ?_
  refine xk_assign rfl (by decide) ?_
  refine XK.nilN ?_
  refine XK.seq ?_

  refine XK.region ?_
  refine xk_move rfl (by decide) ?_
  refine xk_geq rfl rfl (by decide) ?_
  refine xk_move rfl (by decide) ?_
  (first | refine xk_split (t := 7) rfl (fun hg => ?_) (fun hg => ?_) | refine xk_splitB (t := 7) rfl (fun hg => ?_) (fun hg => ?_))
  ·
    refine xk_guardT rfl rfl ?_; refine xk_move rfl (by decide) ?_
    refine xk_guardT rfl rfl ?_; refine xk_move rfl (by decide) ?_
    refine xk_guardT rfl rfl ?_; refine xk_nilC rfl (by decide) ?_
    refine xk_guardT rfl rfl ?_; refine xk_field (off := 0) (by kernel_rfl) rfl (by decide) ?_
    refine xk_guardT rfl rfl ?_; refine xk_load (by kernel_rfl) rfl (Rd.roc (by simp) h0) (by decide) ?_
    refine xk_guardT rfl rfl ?_; refine xk_len (el := 22) (by kernel_rfl) rfl (by decide) ?_
    refine xk_guardT rfl rfl ?_; refine xk_lss rfl rfl (by decide) ?_
    (first | refine xk_pickT rfl rfl (by decide) ?_ | refine xk_pickF rfl rfl (by decide) ?_)
    refine xk_assign rfl (by decide) ?_
    refine XK.nilN ?_
    refine XK.ret ?_
    refine XK.norm ?_
    refine XK.ret1 rfl rfl fun w1 st => ⟨?_, st.below (by simp)⟩
    have e1 : decide (0 ≤ dev ∧ dev < (n : Int)) = decide (dev < (n : Int)) := by by_cases h : dev < (n : Int) <;> simp [h]; omega
    rw [e1]
  ·
    refine xk_guardF rfl rfl rfl (by decide) ?_
    refine xk_guardF rfl rfl rfl (by decide) ?_
    refine xk_guardF rfl rfl rfl (by decide) ?_
    refine xk_guardF rfl rfl rfl (by decide) ?_
    refine xk_guardF rfl rfl rfl (by decide) ?_
    refine xk_guardF rfl rfl rfl (by decide) ?_
    refine xk_guardF rfl rfl rfl (by decide) ?_
    (first | refine xk_pickT rfl rfl (by decide) ?_ | refine xk_pickF rfl rfl (by decide) ?_)
    refine xk_assign rfl (by decide) ?_
    refine XK.nilN ?_
    refine XK.ret ?_
    refine XK.norm ?_
    refine XK.ret1 rfl rfl fun w1 st => ⟨?_, st.below (by simp)⟩
    have e1 : decide (0 ≤ dev ∧ dev < (n : Int)) = false := by simp; omega
    rw [e1]

theorem get_m (gc gm n k : Nat) (A : Option Addr) (c : Cn) (dev : Int) (w : World) (F : Nat → Prop) (hp : (CntH gc gm (.slice A n k) c).sat F w) (hF : ∀ b, F b → b < w.heap.size) :
    Calls Tryz.prog 67 #[.pointer (some ⟨gc, 0, none⟩), .int .i64 dev] w (fun y w' => y = .returned (.int .i64 (cget n c dev).1) ∧ ∃ F', (CntH gc gm (.slice A n k) (cget n c dev).2).sat F' w' ∧ Turns w w' F F') := by
  refine XK.enterM (p := CntH gc gm (.slice A n k) c) (F := F) (vs := [.pointer (some ⟨gc, 0, none⟩), .int .i64 dev]) Tryz.func67 rfl Tryz.ntmps67 (by simp) hp hF ?_
  unfold CntH
  refine XK.take 0 0 rfl rfl ?_
  dsimp only [List.set]
  refine XK.take 1 1 rfl rfl ?_
  dsimp only [List.set]
  refine XK.seq ?_

  refine XK.region ?_
  refine xk_assign rfl (by decide) ?_
  refine XK.nilN ?_
  refine XK.seq ?_
  refine XK.block ?_
  refine XK.seq ?_

  refine XK.region ?_
  refine xk_move rfl (by decide) ?_
  refine xk_nilC rfl (by decide) ?_
  refine xk_field (off := 2) (by kernel_rfl) rfl (by decide) ?_
  refine xk_ld rfl ?_
  refine xk_assign rfl (by decide) ?_
  refine XK.nilN ?_
  refine XK.cond rfl (fun ha => ?_) (fun ha => ?_)
  ·
    refine XK.seq ?_

    refine XK.region ?_
    refine xk_assign rfl (by decide) ?_
    refine XK.nilN ?_
    refine XK.ret ?_
    refine XK.norm ?_
    have hr : cget n c dev = (6, c) := by simp [cget, ha]
    refine XK.give 1 1 rfl rfl ?_
    dsimp only [List.set]
    refine XK.give 0 0 rfl rfl ?_
    dsimp only [List.set]
    refine XK.ret1 rfl rfl fun w1 st => ?_
    rw [hr]
    exact ⟨rfl, st.turns hF (by simp) (i := 0) rfl⟩
  ·
    refine XK.seq ?_

    refine XK.region ?_
    refine xk_move rfl (by decide) ?_
    refine xk_move rfl (by decide) ?_
    refine xk_callR (f := 117) (fi := []) (ca := []) (by kernel_rfl) rfl rfl (by decide) (fun w1 st => known_any gc n k A dev w1 ⟨(st.blk (i := 1) rfl).lt, Rd.blk 1 rfl rfl w1 st⟩) ?_
    (first | refine xk_notD rfl (by decide) ?_ | refine xk_not rfl (by decide) ?_)
    refine xk_assign rfl (by decide) ?_
    refine XK.nilN ?_
    refine XK.if_ rfl (fun h => ?_) (fun h => ?_)
    ·
      refine XK.seq ?_

      refine XK.region ?_
      refine xk_assign rfl (by decide) ?_
      refine XK.nilN ?_
      refine XK.ret ?_
      refine XK.norm ?_
      have hr : cget n c dev = (4, c) := by simp only [cget, ha]; simp_all
      refine XK.give 1 1 rfl rfl ?_
      dsimp only [List.set]
      refine XK.give 0 0 rfl rfl ?_
      dsimp only [List.set]
      refine XK.ret1 rfl rfl fun w1 st => ?_
      rw [hr]
      exact ⟨rfl, st.turns hF (by simp) (i := 0) rfl⟩
    ·
      refine XK.seq ?_

      refine XK.region ?_
      refine xk_move rfl (by decide) ?_
      refine xk_nilC rfl (by decide) ?_
      refine xk_field (off := 1) (by kernel_rfl) rfl (by decide) ?_
      refine xk_ld rfl ?_
      refine xk_move rfl (by decide) ?_
      refine xk_lookup (kt := 3) (et := 3) (kd := .i64) (z := .int .i64 0) (l := cntL c.l) false (by kernel_rfl) (by kernel_rfl) (by kernel_rfl) rfl rfl (fun w1 st => st.map (i := 0) rfl) (by decide) ?_
      simp only [Bool.false_eq_true, if_false, mget_cnt]
      refine xk_geq rfl rfl (by decide) ?_
      refine xk_assign rfl (by decide) ?_
      refine XK.nilN ?_
      refine XK.if_ rfl (fun h => ?_) (fun h => ?_)
      ·
        refine XK.seq ?_

        refine XK.region ?_
        refine xk_assign rfl (by decide) ?_
        refine XK.nilN ?_
        refine XK.ret ?_
        refine XK.norm ?_
        have hr : cget n c dev = (8, c) := by simp only [cget, ha]; simp_all
        refine XK.give 1 1 rfl rfl ?_
        dsimp only [List.set]
        refine XK.give 0 0 rfl rfl ?_
        dsimp only [List.set]
        refine XK.ret1 rfl rfl fun w1 st => ?_
        rw [hr]
        exact ⟨rfl, st.turns hF (by simp) (i := 0) rfl⟩
      ·
        refine XK.skip ?_
        refine XK.norm ?_
        refine XK.seq ?_

        refine XK.region ?_
        refine xk_move rfl (by decide) ?_
        refine xk_nilC rfl (by decide) ?_
        refine xk_field (off := 1) (by kernel_rfl) rfl (by decide) ?_
        refine xk_ld rfl ?_
        refine xk_move rfl (by decide) ?_
        refine xk_lookup (kt := 3) (et := 3) (kd := .i64) (z := .int .i64 0) (l := cntL c.l) false (by kernel_rfl) (by kernel_rfl) (by kernel_rfl) rfl rfl (fun w1 st => st.map (i := 0) rfl) (by decide) ?_
        simp only [Bool.false_eq_true, if_false, mget_cnt]
        refine xk_add rfl rfl rfl (by decide) ?_
        refine xk_mapUpdate (kt := 3) (et := 3) (kd := .i64) (l := cntL c.l) 0 (by kernel_rfl) (by kernel_rfl) rfl rfl rfl rfl ?_
        rw [mset_cnt]
        dsimp only [List.set]
        refine XK.nilN ?_
        refine XK.seq ?_

        refine XK.region ?_
        refine xk_assign rfl (by decide) ?_
        refine XK.nilN ?_
        refine XK.ret ?_
        refine XK.norm ?_
        have hr : cget n c dev = (0, ⟨setC c.l dev (IntKind.i64.wrap (getC c.l dev + 1)), c.asl⟩) := by simp only [cget, ha]; simp_all
        refine XK.give 1 1 rfl rfl ?_
        dsimp only [List.set]
        refine XK.give 0 0 rfl rfl ?_
        dsimp only [List.set]
        refine XK.ret1 rfl rfl fun w1 st => ?_
        rw [hr]
        exact ⟨rfl, st.turns hF (by simp) (i := 0) rfl⟩

theorem put_m (gc gm n k : Nat) (A : Option Addr) (c : Cn) (dev : Int) (w : World) (F : Nat → Prop) (hp : (CntH gc gm (.slice A n k) c).sat F w) (hF : ∀ b, F b → b < w.heap.size) :
    Calls Tryz.prog 68 #[.pointer (some ⟨gc, 0, none⟩), .int .i64 dev] w (fun y w' => y = .returned (.int .i64 (cput n c dev).1) ∧ ∃ F', (CntH gc gm (.slice A n k) (cput n c dev).2).sat F' w' ∧ Turns w w' F F') := by
  refine XK.enterM (p := CntH gc gm (.slice A n k) c) (F := F) (vs := [.pointer (some ⟨gc, 0, none⟩), .int .i64 dev]) Tryz.func68 rfl Tryz.ntmps68 (by simp) hp hF ?_
  unfold CntH
  refine XK.take 0 0 rfl rfl ?_
  dsimp only [List.set]
  refine XK.take 1 1 rfl rfl ?_
  dsimp only [List.set]
  refine XK.seq ?_

  refine XK.region ?_
  refine xk_assign rfl (by decide) ?_
  refine XK.nilN ?_
  refine XK.seq ?_
  refine XK.block ?_
  refine XK.seq ?_

  refine XK.region ?_
  refine xk_move rfl (by decide) ?_
  refine xk_nilC rfl (by decide) ?_
  refine xk_field (off := 2) (by kernel_rfl) rfl (by decide) ?_
  refine xk_ld rfl ?_
  refine xk_assign rfl (by decide) ?_
  refine XK.nilN ?_
  refine XK.cond rfl (fun ha => ?_) (fun ha => ?_)
  ·
    refine XK.seq ?_

    refine XK.region ?_
    refine xk_assign rfl (by decide) ?_
    refine XK.nilN ?_
    refine XK.ret ?_
    refine XK.norm ?_
    have hr : cput n c dev = (6, c) := by simp [cput, ha]
    refine XK.give 1 1 rfl rfl ?_
    dsimp only [List.set]
    refine XK.give 0 0 rfl rfl ?_
    dsimp only [List.set]
    refine XK.ret1 rfl rfl fun w1 st => ?_
    rw [hr]
    exact ⟨rfl, st.turns hF (by simp) (i := 0) rfl⟩
  ·
    refine XK.seq ?_

    refine XK.region ?_
    refine xk_move rfl (by decide) ?_
    refine xk_move rfl (by decide) ?_
    refine xk_callR (f := 117) (fi := []) (ca := []) (by kernel_rfl) rfl rfl (by decide) (fun w1 st => known_any gc n k A dev w1 ⟨(st.blk (i := 1) rfl).lt, Rd.blk 1 rfl rfl w1 st⟩) ?_
    (first | refine xk_notD rfl (by decide) ?_ | refine xk_not rfl (by decide) ?_)
    refine xk_assign rfl (by decide) ?_
    refine XK.nilN ?_
    refine XK.if_ rfl (fun h => ?_) (fun h => ?_)
    ·
      refine XK.seq ?_

      refine XK.region ?_
      refine xk_assign rfl (by decide) ?_
      refine XK.nilN ?_
      refine XK.ret ?_
      refine XK.norm ?_
      have hr : cput n c dev = (4, c) := by simp only [cput, ha]; simp_all
      refine XK.give 1 1 rfl rfl ?_
      dsimp only [List.set]
      refine XK.give 0 0 rfl rfl ?_
      dsimp only [List.set]
      refine XK.ret1 rfl rfl fun w1 st => ?_
      rw [hr]
      exact ⟨rfl, st.turns hF (by simp) (i := 0) rfl⟩
    ·
      refine XK.seq ?_

      refine XK.region ?_
      refine xk_move rfl (by decide) ?_
      refine xk_nilC rfl (by decide) ?_
      refine xk_field (off := 1) (by kernel_rfl) rfl (by decide) ?_
      refine xk_ld rfl ?_
      refine xk_move rfl (by decide) ?_
      refine xk_lookup (kt := 3) (et := 3) (kd := .i64) (z := .int .i64 0) (l := cntL c.l) false (by kernel_rfl) (by kernel_rfl) (by kernel_rfl) rfl rfl (fun w1 st => st.map (i := 0) rfl) (by decide) ?_
      simp only [Bool.false_eq_true, if_false, mget_cnt]
      refine xk_leq rfl rfl (by decide) ?_
      refine xk_assign rfl (by decide) ?_
      refine XK.nilN ?_
      refine XK.if_ rfl (fun h => ?_) (fun h => ?_)
      ·
        refine XK.seq ?_

        refine XK.region ?_
        refine xk_assign rfl (by decide) ?_
        refine XK.nilN ?_
        refine XK.ret ?_
        refine XK.norm ?_
        have hr : cput n c dev = (6, c) := by simp only [cput, ha]; simp_all
        refine XK.give 1 1 rfl rfl ?_
        dsimp only [List.set]
        refine XK.give 0 0 rfl rfl ?_
        dsimp only [List.set]
        refine XK.ret1 rfl rfl fun w1 st => ?_
        rw [hr]
        exact ⟨rfl, st.turns hF (by simp) (i := 0) rfl⟩
      ·
        refine XK.skip ?_
        refine XK.norm ?_
        refine XK.seq ?_

        refine XK.region ?_
        refine xk_move rfl (by decide) ?_
        refine xk_nilC rfl (by decide) ?_
        refine xk_field (off := 1) (by kernel_rfl) rfl (by decide) ?_
        refine xk_ld rfl ?_
        refine xk_move rfl (by decide) ?_
        refine xk_lookup (kt := 3) (et := 3) (kd := .i64) (z := .int .i64 0) (l := cntL c.l) false (by kernel_rfl) (by kernel_rfl) (by kernel_rfl) rfl rfl (fun w1 st => st.map (i := 0) rfl) (by decide) ?_
        simp only [Bool.false_eq_true, if_false, mget_cnt]
        refine xk_sub rfl rfl rfl (by decide) ?_
        refine xk_mapUpdate (kt := 3) (et := 3) (kd := .i64) (l := cntL c.l) 0 (by kernel_rfl) (by kernel_rfl) rfl rfl rfl rfl ?_
        rw [mset_cnt]
        dsimp only [List.set]
        refine XK.nilN ?_
        refine XK.seq ?_

        refine XK.region ?_
        refine xk_assign rfl (by decide) ?_
        refine XK.nilN ?_
        refine XK.ret ?_
        refine XK.norm ?_
        have hr : cput n c dev = (0, ⟨setC c.l dev (IntKind.i64.wrap (getC c.l dev - 1)), c.asl⟩) := by simp only [cput, ha]; simp_all
        refine XK.give 1 1 rfl rfl ?_
        dsimp only [List.set]
        refine XK.give 0 0 rfl rfl ?_
        dsimp only [List.set]
        refine XK.ret1 rfl rfl fun w1 st => ?_
        rw [hr]
        exact ⟨rfl, st.turns hF (by simp) (i := 0) rfl⟩

theorem sus_m (gc gm n k : Nat) (A : Option Addr) (c : Cn)  (w : World) (F : Nat → Prop) (hp : (CntH gc gm (.slice A n k) c).sat F w) (hF : ∀ b, F b → b < w.heap.size) :
    Calls Tryz.prog 69 #[.pointer (some ⟨gc, 0, none⟩)] w (fun y w' => y = .returned (.int .i64 (csus c).1) ∧ ∃ F', (CntH gc gm (.slice A n k) (csus c).2).sat F' w' ∧ Turns w w' F F') := by
  refine XK.enterM (p := CntH gc gm (.slice A n k) c) (F := F) (vs := [.pointer (some ⟨gc, 0, none⟩)]) Tryz.func69 rfl Tryz.ntmps69 (by simp) hp hF ?_
  unfold CntH
  refine XK.take 0 0 rfl rfl ?_
  dsimp only [List.set]
  refine XK.take 1 1 rfl rfl ?_
  dsimp only [List.set]
  refine XK.seq ?_

  refine XK.region ?_
  refine xk_assign rfl (by decide) ?_
  refine XK.nilN ?_
  refine XK.seq ?_
  refine XK.seq ?_

  refine XK.region ?_
  refine xk_move rfl (by decide) ?_
  refine xk_nilC rfl (by decide) ?_
  refine xk_field (off := 2) (by kernel_rfl) rfl (by decide) ?_
  refine xk_ld rfl ?_
  refine XK.nilN ?_
  refine XK.cond rfl (fun ha => ?_) (fun ha => ?_)
  ·
    refine XK.seq ?_

    refine XK.region ?_
    refine xk_assign rfl (by decide) ?_
    refine XK.nilN ?_
    refine XK.ret ?_
    refine XK.norm ?_
    have hr : csus c = (6, c) := by simp_all [csus]
    refine XK.give 1 1 rfl rfl ?_
    dsimp only [List.set]
    refine XK.give 0 0 rfl rfl ?_
    dsimp only [List.set]
    refine XK.ret1 rfl rfl fun w1 st => ?_
    rw [hr]
    exact ⟨rfl, st.turns hF (by simp) (i := 0) rfl⟩
  ·
    refine XK.skip ?_
    refine XK.norm ?_
    refine XK.seq ?_

    refine XK.region ?_
    refine xk_move rfl (by decide) ?_
    refine xk_nilC rfl (by decide) ?_
    refine xk_field (off := 2) (by kernel_rfl) rfl (by decide) ?_
    refine xk_st rfl rfl ?_; dsimp only [List.set]
    refine XK.nilN ?_
    refine XK.seq ?_

    refine XK.region ?_
    refine xk_assign rfl (by decide) ?_
    refine XK.nilN ?_
    refine XK.ret ?_
    refine XK.norm ?_
    have hr : csus c = (0, ⟨c.l, true⟩) := by simp_all [csus]
    refine XK.give 1 1 rfl rfl ?_
    dsimp only [List.set]
    refine XK.give 0 0 rfl rfl ?_
    dsimp only [List.set]
    refine XK.ret1 rfl rfl fun w1 st => ?_
    rw [hr]
    exact ⟨rfl, st.turns hF (by simp) (i := 0) rfl⟩

theorem res_m (gc gm n k : Nat) (A : Option Addr) (c : Cn)  (w : World) (F : Nat → Prop) (hp : (CntH gc gm (.slice A n k) c).sat F w) (hF : ∀ b, F b → b < w.heap.size) :
    Calls Tryz.prog 70 #[.pointer (some ⟨gc, 0, none⟩)] w (fun y w' => y = .returned (.int .i64 (cres c).1) ∧ ∃ F', (CntH gc gm (.slice A n k) (cres c).2).sat F' w' ∧ Turns w w' F F') := by
  refine XK.enterM (p := CntH gc gm (.slice A n k) c) (F := F) (vs := [.pointer (some ⟨gc, 0, none⟩)]) Tryz.func70 rfl Tryz.ntmps70 (by simp) hp hF ?_
  unfold CntH
  refine XK.take 0 0 rfl rfl ?_
  dsimp only [List.set]
  refine XK.take 1 1 rfl rfl ?_
  dsimp only [List.set]
  refine XK.seq ?_

  refine XK.region ?_
  refine xk_assign rfl (by decide) ?_
  refine XK.nilN ?_
  refine XK.seq ?_
  refine XK.seq ?_

  refine XK.region ?_
  refine xk_move rfl (by decide) ?_
  refine xk_nilC rfl (by decide) ?_
  refine xk_field (off := 2) (by kernel_rfl) rfl (by decide) ?_
  refine xk_ld rfl ?_
  (first | refine xk_notD rfl (by decide) ?_ | refine xk_not rfl (by decide) ?_)
  refine XK.nilN ?_
  refine XK.cond rfl (fun ha => ?_) (fun ha => ?_)
  ·
    refine XK.seq ?_

    refine XK.region ?_
    refine xk_assign rfl (by decide) ?_
    refine XK.nilN ?_
    refine XK.ret ?_
    refine XK.norm ?_
    have hr : cres c = (6, c) := by simp_all [cres]
    refine XK.give 1 1 rfl rfl ?_
    dsimp only [List.set]
    refine XK.give 0 0 rfl rfl ?_
    dsimp only [List.set]
    refine XK.ret1 rfl rfl fun w1 st => ?_
    rw [hr]
    exact ⟨rfl, st.turns hF (by simp) (i := 0) rfl⟩
  ·
    refine XK.skip ?_
    refine XK.norm ?_
    refine XK.seq ?_

    refine XK.region ?_
    refine xk_move rfl (by decide) ?_
    refine xk_nilC rfl (by decide) ?_
    refine xk_field (off := 2) (by kernel_rfl) rfl (by decide) ?_
    refine xk_st rfl rfl ?_; dsimp only [List.set]
    refine XK.nilN ?_
    refine XK.seq ?_

    refine XK.region ?_
    refine xk_assign rfl (by decide) ?_
    refine XK.nilN ?_
    refine XK.ret ?_
    refine XK.norm ?_
    have hr : cres c = (0, ⟨c.l, false⟩) := by simp_all [cres]
    refine XK.give 1 1 rfl rfl ?_
    dsimp only [List.set]
    refine XK.give 0 0 rfl rfl ?_
    dsimp only [List.set]
    refine XK.ret1 rfl rfl fun w1 st => ?_
    rw [hr]
    exact ⟨rfl, st.turns hF (by simp) (i := 0) rfl⟩

theorem asleep_any (gc : Nat) (b : Bool) (w : World) (h2 : ROc w gc 2 (.bool b)) : Calls Tryz.prog 71 #[.pointer (some ⟨gc, 0, none⟩)] w (Rt (.bool b) w) := by
  refine XK.enter (vs := [.pointer (some ⟨gc, 0, none⟩)]) Tryz.func71 rfl Tryz.ntmps71 (by simp) ?_
  refine XK.seq ?_

  refine XK.region ?_
  refine xk_assign rfl (by decide) ?_
  refine XK.nilN ?_
  refine XK.seq ?_

  refine XK.region ?_
  refine xk_move rfl (by decide) ?_
  refine xk_nilC rfl (by decide) ?_
  refine xk_field (off := 2) (by kernel_rfl) rfl (by decide) ?_
  refine xk_load (by kernel_rfl) rfl (Rd.roc (by simp) h2) (by decide) ?_
  refine xk_assign rfl (by decide) ?_
  refine XK.nilN ?_
  refine XK.ret ?_
  refine XK.norm ?_
  exact XK.ret1 rfl rfl fun w1 st => ⟨rfl, st.below (by simp)⟩

def NewOk (s : Soc) (v : Value) (hs : List HP) (q : Piece) : Prop := ∃ gc gm A k, v = .tuple #[.pointer (some ⟨gc, 0, none⟩), .int .i64 0] ∧ hs = [CntH gc gm (.slice A (needsG s).length k) ⟨[], false⟩] ∧ GrS q A (needsG s).length (needsG s)
theorem new_ok (s : Soc) (A1 A2 A3 A4 : Option Addr) (n1 k1 n2 k2 n3 k3 n4 k4 : Nat) (w : World) (hW : SocW w s A1 n1 A2 n2 A3 n3 A4 n4) (hchk : checkS s = 0) :
    Calls Tryz.prog 41 #[.agg #[.slice A1 n1 k1, .slice A2 n2 k2, .slice A3 n3 k3, .slice A4 n4 k4]] w (fun y w' => (∃ v hs q, y = .returned v ∧ q.w = w' ∧ NewOk s v hs q ∧ New w hs q) ∧ Below w.heap.size w w') := by
  refine XK.enter (vs := [.agg #[.slice A1 n1 k1, .slice A2 n2 k2, .slice A3 n3 k3, .slice A4 n4 k4]]) Tryz.func41 rfl Tryz.ntmps41 (by simp) ?_
  refine XK.seq ?_

  refine XK.region ?_
  refine xk_box rfl (by decide) fun g1 => ?_
  refine xk_assign rfl (by decide) ?_
  refine xk_assign rfl (by decide) ?_
  refine XK.nilN ?_
  refine XK.seq ?_
  refine XK.seq ?_

  refine XK.region ?_
  refine xk_ldN 4 rfl ?_
  refine xk_callR (f := 47) (fi := []) (ca := []) (by kernel_rfl) rfl rfl (by decide) (fun w1 st => checkS_any s A1 A2 A3 A4 n1 k1 n2 k2 n3 k3 n4 k4 w1 (hW.le (st.started (by simp)))) ?_
  rw [hchk]
  refine xk_assign rfl (by decide) ?_
  refine XK.nilN ?_
  refine XK.seq ?_

  refine XK.region ?_
  refine xk_move rfl (by decide) ?_
  refine xk_neq rfl rfl (by decide) ?_
  refine XK.nilN ?_
  refine XK.if_ rfl (fun h => ?_) (fun h => ?_)
  ·
    refine XK.seq ?_

    refine XK.region ?_
    refine xk_move rfl (by decide) ?_
    refine xk_assign rfl (by decide) ?_
    refine xk_assign rfl (by decide) ?_
    refine XK.nilN ?_
    refine XK.ret ?_
    refine XK.norm ?_
    exact absurd rfl h
  ·
    refine XK.skip ?_
    refine XK.norm ?_
    refine XK.seq ?_

    refine XK.region ?_
    refine xk_ldN 4 rfl ?_
    refine xk_call [] (f := 65) (fi := []) (ca := []) (by kernel_rfl) rfl rfl (by decide) (by simp) (GrOk (needsG s)) (fun w1 st => needs_any s A1 A2 A3 A4 n1 k1 n2 k2 n3 k3 n4 k4 w1 (hW.le (st.started (by simp)))) ?_
    rintro _ w1 q1 ⟨Ag, cg, rfl, hgr⟩ hf _ hF1
    have hF1 := hF1 (by simp)
    have hgr := hgr.le hf
    clear hf
    refine xk_makeMap (by decide) fun gm => ?_
    refine xk_buildS (zs := [.slice none 0 0, .map none, .bool false]) (L := [(0, 1), (1, 1), (2, 1)]) (zeroB_of (by kernel_rfl)) (by kernel_rfl) rfl (by simp [fillL, setN, Value.cells]; rfl) (by decide) ?_
    refine xk_box rfl (by decide) fun g2 => ?_
    refine xk_assign rfl (by decide) ?_
    refine xk_assign rfl (by decide) ?_
    refine XK.nilN ?_
    refine XK.ret ?_
    refine XK.norm ?_
    refine XK.pair ?_
    refine XK.still [q1] [] [0] (by simp) rfl (by decide) (by decide) fun q _ hLe hfr => ?_
    refine XK.ret2 rfl rfl rfl fun w1 st => ⟨⟨_, _, ⟨w1, q.Z⟩, rfl, rfl, ⟨g2, gm, Ag, cg, rfl, rfl, (hgr.le (hLe q1 (by simp))).le (fun b hb => ⟨hb, ?_⟩)⟩, st.newR (by simp) (by simp) (hfr (by simp) (fun p hp => by simp at hp; subst hp; exact hF1))⟩, st.below (by simp)⟩
    exact st.ro (by simp : q ∈ _) hb

end Go.Proofs.YtbgibbbggajgaaaGreat
/- A call that writes a chunk, and reads the pieces; cuts and draws in rounds; two results in variables. -/
namespace Go.Proofs.YtbgibbbggajgaaaGreat
set_option linter.all false
open Go.RowKit
section
variable {P : Program} {w : World} {t kt et : TypeId} {r : Nat} {l : List (Int × Value)}
variable {P : Program} {N : Nat} {w0 w : World} {e : Env} {R : List Piece} {H : List HP} {Q : Exit → Act → World → Prop} {ops : Array Oper} {rest : List Oper}
variable {d : Nat} {ty : TypeId} {pos : String} {aft : Array Edge}
/-- a call that writes chunk i, and reads the pieces; what it hands back is known by a relation -/
theorem xk_callE (i : Nat) {dst : Option Nat} {e' : Env} {f : FuncId} {x : Operand} {args : List Operand} {fi ca vs : List Value} {tys : Array TypeId} {p : HP} {v : Value} (q : HP) (hf : callB P f = true) (hx : e.ev x = some (.func (.func f) fi.toArray ca.toArray)) (ha : e.evs args = some vs) (hi : H[i]? = some p)
    (hd : match dst with | some d => d < N ∧ e' = (d, v) :: e | none => e' = e)
    (hc : ∀ w F, St w0 R H w → p.sat F w → (∀ b, F b → b < w.heap.size) → (∀ q ∈ R, q.Le ⟨w, fun b => b < w.heap.size ∧ ¬ F b⟩) → Calls P f (fi ++ vs ++ ca).toArray w fun y w' => y = .returned v ∧ ∃ F', q.sat F' w' ∧ Turns w w' F F')
    (k : XK N w0 (wpList P ops Q rest) e' R (H.set i q)) : XK N w0 (wpList P ops Q (⟨dst, .call { callee := .value x, args := args.toArray, argTypes := tys }, ty, pos, aft, none⟩ :: rest)) e R H := fun a w hr st => wpList_plain rfl fun K hK => by
  unfold callB at hf
  cases hq : P.funcs[f]? with
  | none => simp [hq] at hf
  | some fn =>
    simp [hq] at hf
    obtain ⟨hf1, hf2⟩ := hf
    have hrun : (execOp a.eval (⟨dst, .call { callee := .value x, args := args.toArray, argTypes := tys }, ty, pos, aft, none⟩ : Oper)).run P w = .ok (.enter f (fi ++ vs ++ ca).toArray) w := by
      cases hb : fn.body with
      | none => simp [hb] at hf2
      | some c => simp [execOp, resolve, hr.ev hx, Deferred.ofValue, invoke, callFunc, hq, hf1, hb, hr.evs ha]
    obtain ⟨Z, F, hz, hrr, hs, hff, hdd⟩ := st.ex
    unfold Oper.wp
    rw [hrun]
    refine (hc w (F i) st (hs i p hi) (fun b hb => (hff i b hb).2) (fun q hqR b hb => ⟨⟨hz b (hrr q hqR b hb).1, fun hfb => (hff i b hfb).1 (hrr q hqR b hb).1⟩, (hrr q hqR b hb).2⟩)).mono fun y w' ⟨hy, F', hq', ht⟩ => ?_
    subst hy
    have st' : St w0 R (H.set i q) w' := by
      have hlt : i < H.length := by
        rcases Nat.lt_or_ge i H.length with h | h
        · exact h
        · rw [List.getElem?_eq_none h] at hi; cases hi
      refine ⟨ht.os.trans st.os, ht.tape.trans st.tape, ht.output.trans st.output, Nat.le_trans st.size ht.size, Z, fun j => if j = i then F' else F j, fun b h => Nat.lt_of_lt_of_le (hz b h) ht.size, fun p hp b h => ?_, fun j r hj => ?_, fun j b h => ?_, fun j k b hjk h => ?_⟩
      · exact ⟨(hrr p hp b h).1, (ht.old b (hz b (hrr p hp b h).1) (fun hfb => (hff i b hfb).1 (hrr p hp b h).1)).trans (hrr p hp b h).2⟩
      · rw [List.getElem?_set] at hj
        split at hj
        · rename_i e; subst e
          first | (rw [if_pos hlt] at hj; cases hj) | cases hj
          simpa using hq'
        · rename_i e
          simp only [if_neg (Ne.symm e)]
          exact r.loc _ _ _ (hs j r hj) (fun b hb => ht.old b (hff j b hb).2 (hdd j i b (Ne.symm e) hb))
      · dsimp only at h
        split at h
        · refine ⟨fun hzb => ?_, (ht.new b h).2⟩
          rcases (ht.new b h).1 with h | h
          · exact (hff i b h).1 hzb
          · have := hz b hzb; omega
        · exact ⟨(hff j b h).1, Nat.lt_of_lt_of_le (hff j b h).2 ht.size⟩
      · dsimp only at h ⊢
        split at h <;> split
        · rename_i h1 h2; omega
        · rename_i e1 e2
          intro hk
          rcases (ht.new b h).1 with h | h
          · exact hdd i k b (by omega) h hk
          · have := (hff k b hk).2; omega
        · rename_i e1 e2
          intro hk
          rcases (ht.new b hk).1 with hk | hk
          · exact hdd j i b (by omega) h hk
          · have := (hff j b h).2; omega
        · exact hdd j k b hjk h
    cases dst with
    | none => dsimp only at hd; subst hd; exact hK _ _ (k _ _ hr st')
    | some d => dsimp only at hd; obtain ⟨hd, rfl⟩ := hd; exact hK _ _ (k _ _ (hr.put hd v) st')
end

/-- a pure fact, as a chunk -/
def HP.pure (p : Prop) : HP := ⟨fun _ _ => p, fun _ _ _ h _ => h⟩
section
variable {P : Program} {N : Nat} {w0 : World} {e e0 : Env} {R R0 : List Piece} {H H0 : List HP} {Q : Exit → Act → World → Prop} {r : Option Nat} {L : List Nat} {K : Act → World → Prop}
theorem XK.fact (i : Nat) {p : Prop} (hi : H[i]? = some (HP.pure p)) (h : p → XK N w0 K e R H) : XK N w0 K e R H := fun a w hr st => by
  obtain ⟨F, hF⟩ := st.sat hi
  exact h hF a w hr st
theorem XK.setFact (i : Nat) {p q : Prop} (hi : H[i]? = some (HP.pure p)) (hq : q) (h : XK N w0 K e R (H.set i (HP.pure q))) : XK N w0 K e R H := fun a w hr st =>
  h a w hr (st.turn hi (Nat.le_refl _) rfl rfl rfl fun F _ hlt => ⟨F, hq, fun b hb => ⟨.inl hb, hlt b hb⟩, fun _ _ _ => rfl⟩)
theorem XK.newFact {q : Prop} (hq : q) (h : XK N w0 K e R (HP.pure q :: H)) : XK N w0 K e R H := fun a w hr st =>
  h a w hr (st.new (w' := w) (Below.refl _ _) hq)
theorem XC.cutB {x y : Code} (u : Nat) (p : Prop) [Decidable p] (h : XK N w0 (KC r L P x (Exit.then (fun a' w' => ∃ b, a' = mk L b ∧ Rep N ((u, .bool (decide p)) :: e) b ∧ St w0 R H w') Q)) e R H)
    (hy : XK N w0 (KC r L P y Q) ((u, .bool (decide p)) :: e) R H) : XK N w0 (KC r L P (Code.seq x y) Q) e R H := fun a w hr st => by
  refine wpIn_seq (wpIn_mono (h a w hr st) fun x a' w' hq => ?_)
  cases x with
  | normal =>
    obtain ⟨b, rfl, h1, h2⟩ := hq
    exact hy b w' h1 h2
  | _ => exact hq
theorem XC.meetB {u : Nat} {p : Prop} [Decidable p] (hs : e0.Sub e) (hu : e.get u = some (.bool (decide p))) : XK N w0 (KQ L (Exit.then (fun a' w' => ∃ b, a' = mk L b ∧ Rep N ((u, .bool (decide p)) :: e0) b ∧ St w0 R H w') Q) .normal) e R H := fun a _ hr st => ⟨a, rfl, hr.sub_cons hs hu, st⟩
/-- .. what is known ahead of each of the first m: R0, H0 -/
theorem XC.draw1 (R0 : List Piece) (H0 : List HP) (m : Nat) {id : Nat} {l : List Oper} (hm : P.follows .mixedOrders = true) (hc : (Region.noSelect (l.take m).toArray && edgesB l.toArray && tlB l.toArray m && tlB (l.take m).toArray m && guardsB l m && (l.take m).all plainOp && decide (m ≤ l.length)) = true)
    (h : XA P N w0 (l.take m).toArray (Fx (KI r L P l.toArray Q (l.drop m))) R0 H0 m m (Array.replicate m false) e R H) : XK N w0 (KC r L P (Code.region id l.toArray true) Q) e R H := fun a w hr st => by
  simp only [Bool.and_eq_true, decide_eq_true_eq] at hc
  obtain ⟨⟨⟨⟨⟨⟨c1, c2⟩, c3⟩, c4⟩, c5⟩, c6⟩, c7⟩ := hc
  have h1 := h ⟨Down.start _ _, c1, c4⟩ a w.drew hr st.drew
  have h2 := any_sound (r := r) (L := L) (Q := Q) c7 c2 c3 c5 c6 m (Array.replicate l.length false) _ a w.drew ⟨fun i hi => by simp [hi, Nat.lt_of_lt_of_le hi c7], fun i hi => by simp [Array.getElem?_replicate]; split <;> rfl, by simp, by simp, by simpa using c7⟩ (Down.start _ _) (wpAny_of_x _ _ _ _ h1)
  unfold KC
  refine wpIn_region_any hm ?_
  rw [show m + (l.length - m) = l.length by omega] at h2
  simpa using h2
theorem XC.retC2 {fn : Func} {Post : Ending → World → Prop} {Hs : List HP} {t1 t2 b1 b2 : Nat} {s1 s2 : TypeId} {v1 v2 : Value} (hr : fn.results = #[.cell t1 s1, .cell t2 s2]) (h1 : oneB P s1 = true) (h2 : oneB P s2 = true) (ht1 : e.get t1 = some (.pointer (some ⟨b1, 0, none⟩))) (ht2 : e.get t2 = some (.pointer (some ⟨b2, 0, none⟩)))
    (r1 : Rd w0 R Hs b1 0 v1) (r2 : Rd w0 R Hs b2 0 v2) (h : ∀ w, St w0 R Hs w → Post (.returned (.tuple #[v1, v2])) w) : XK N w0 (KQ L (bodyPostM Fence.wide 9 P fn Post) .ret) e R (Hs ++ [HP.marks L]) := fun a w hrp st => by
  have := leaves_marks (P := P) (fn := fn) (tmps := a.tmps) (v := .tuple #[v1, v2]) L Hs w st (fun w st => ⟨by
    have l1 := run_load_one (P := P) h1 (r1 w st)
    have l2 := run_load_one (P := P) h2 (r2 w st)
    have a1 := hrp.get t1 _ ht1
    have a2 := hrp.get t2 _ ht2
    simp only [Instr.loadAt, Instr.sureAddr, Sem.run_bind, Sem.run_pure, Result.andThen_ok] at l1 l2
    simp only [results, hr]
    simp [a1, a2, asAddr, l1, l2], h w st⟩)
  unfold KQ mk; rw [hrp.defers]; exact this
end
end Go.Proofs.YtbgibbbggajgaaaGreat
/- A chip that a piece shows; rows, as a piece shows them. -/
namespace Go.Proofs.YtbgibbbggajgaaaGreat
set_option linter.all false
open Go.RowKit
/-- a chip that a piece shows -/
structure SocQ (p : Piece) (s : Soc) (A1 : Option Addr) (n1 : Nat) (A2 : Option Addr) (n2 : Nat) (A3 : Option Addr) (n3 : Nat) (A4 : Option Addr) (n4 : Nat) : Prop where
  clk : RsR (slq p) (ClkR (slq p)) 87 6 A1 n1 s.clocks
  dom : RsR (slq p) DomR 89 3 A2 n2 s.domains
  rst : RsR (slq p) RstR 91 1 A3 n3 s.resets
  dev : RsR (slq p) (DevR (slq p)) 94 6 A4 n4 s.devs
section
variable {p q : Piece} {w : World} {s : Soc} {A1 A2 A3 A4 : Option Addr} {n1 n2 n3 n4 : Nat}
theorem SocQ.le (h : SocQ p s A1 n1 A2 n2 A3 n3 A4 n4) (hl : p.Le q) : SocQ q s A1 n1 A2 n2 A3 n3 A4 n4 :=
  ⟨h.clk.mono (slq_le hl) (fun _ _ => ClkR.mono (slq_le hl)), h.dom.mono (slq_le hl) (fun _ _ h => h), h.rst.mono (slq_le hl) (fun _ _ h => h), h.dev.mono (slq_le hl) (fun _ _ => DevR.mono (slq_le hl))⟩
theorem SocQ.W (h : SocQ p s A1 n1 A2 n2 A3 n3 A4 n4) (hl : p.Le (all w)) (hs : s.small) : SocW w s A1 n1 A2 n2 A3 n3 A4 n4 := ⟨(h.le hl).clk, (h.le hl).dom, (h.le hl).rst, (h.le hl).dev, hs⟩
theorem SocQ.len (h : SocQ p s A1 n1 A2 n2 A3 n3 A4 n4) : n1 = s.clocks.length ∧ n2 = s.domains.length ∧ n3 = s.resets.length ∧ n4 = s.devs.length := by
  obtain ⟨⟨_, _, h1, _⟩, ⟨_, _, h2, _⟩, ⟨_, _, h3, _⟩, ⟨_, _, h4, _⟩⟩ := h
  exact ⟨h1, h2, h3, h4⟩
theorem SocR.Q {cs : Array Value} (h : SocR (slq p) s cs) : ∃ A1 n1 k1 A2 n2 k2 A3 n3 k3 A4 n4 k4, cs = #[.slice A1 n1 k1, .slice A2 n2 k2, .slice A3 n3 k3, .slice A4 n4 k4] ∧ SocQ p s A1 n1 A2 n2 A3 n3 A4 n4 := by
  obtain ⟨A1, n1, k1, A2, n2, k2, A3, n3, k3, A4, n4, k4, h0, h1, h2, h3, h4⟩ := h
  exact ⟨A1, n1, k1, A2, n2, k2, A3, n3, k3, A4, n4, k4, h0, h1, h2, h3, h4⟩
end
theorem RsR.rowQ {α : Type} {p : Piece} {R : α → List Value → Prop} {t : TypeId} {sz n : Nat} {A : Option Addr} {es : List α} (h : RsR (slq p) R t sz A n es) {k : Nat} {e : α} (hk : es[k]? = some e) :
    ∃ b off r, A = some ⟨b, off, none⟩ ∧ p.Z b ∧ r.length = sz ∧ R e r ∧ ∀ f u, r[f]? = some u → p.w.cell? ⟨b, off + k * sz + f, none⟩ = some u := by
  obtain ⟨rows, h1, h2, h3⟩ := h
  have hlt : k < n := by
    rw [h2]
    rcases Nat.lt_or_ge k es.length with h | h
    · exact h
    · rw [List.getElem?_eq_none h] at hk; cases hk
  obtain ⟨b, off, hA, hb, hc⟩ := SlS.at_ h3 hlt
  obtain ⟨r, h4, h5, h6⟩ := h1.get hk
  refine ⟨b, off, r, hA, hb, h4, h5, fun f u hu => hc f u ?_⟩
  have hf : f < sz := by
    rw [← h4]
    rcases Nat.lt_or_ge f r.length with h | h
    · exact h
    · rw [List.getElem?_eq_none h] at hu; cases hu
  rw [h6 f hf, hu]
end Go.Proofs.YtbgibbbggajgaaaGreat
/- audit: the effect of a task's call. -/
namespace Go.Proofs.YtbgibbbggajgaaaGreat
set_option linter.all false
open Go.RowKit
/-- what calls come to, in plain words -/
structure Crs where
  c : Cn
  h : List Int
def hAt (h : List Int) (t d : Nat) : Int := h[t * 6 + d]?.getD 0
def regsN (devs : List Dev) (d : Nat) : Nat := (devs[d]?.map (·.regs.length)).getD 0
def effF (devs : List Dev) (x : Crs) (t : Nat) (ck dev reg : Int) : Int × Crs :=
  if ck = 103 then ((cget devs.length x.c dev).1, ⟨(cget devs.length x.c dev).2, if (cget devs.length x.c dev).1 = 0 then x.h.set (t * 6 + dev.toNat) (IntKind.i64.wrap (hAt x.h t dev.toNat + 1)) else x.h⟩)
  else if ck = 112 then (if ¬ (0 ≤ dev ∧ dev < devs.length) then (4, x) else if hAt x.h t dev.toNat = 0 then (6, x) else
    ((cput devs.length x.c dev).1, ⟨(cput devs.length x.c dev).2, if (cput devs.length x.c dev).1 = 0 then x.h.set (t * 6 + dev.toNat) (IntKind.i64.wrap (hAt x.h t dev.toNat - 1)) else x.h⟩))
  else if ck = 115 then ((csus x.c).1, ⟨(csus x.c).2, x.h⟩)
  else if ck = 109 then ((cres x.c).1, ⟨(cres x.c).2, x.h⟩)
  else if ck = 114 ∨ ck = 119 then (if ¬ (0 ≤ dev ∧ dev < devs.length) ∨ reg < 0 ∨ (regsN devs dev.toNat : Int) ≤ reg then (4, x) else if hAt x.h t dev.toNat = 0 ∨ x.c.asl = true then (6, x) else (0, x))
  else (0, x)
theorem effF_len {devs : List Dev} {x : Crs} {t : Nat} {ck dev reg : Int} : (effF devs x t ck dev reg).2.h.length = x.h.length := by
  unfold effF
  repeat (split <;> try (simp only [List.length_set]; done))
  all_goals first | rfl | (dsimp only; split <;> simp)
theorem cget_known {nd : Nat} {c : Cn} {dev : Int} (h : (cget nd c dev).1 = 0) : 0 ≤ dev ∧ dev < nd := by
  unfold cget at h
  by_cases h1 : c.asl = true
  · rw [if_pos h1] at h; cases h
  · rw [if_neg h1] at h
    by_cases h2 : 0 ≤ dev ∧ dev < nd
    · exact h2
    · rw [if_pos h2] at h; cases h
/-- .. and where it lies -/
def hCells (h : List Int) : List Value := h.map (Value.int .i64)
theorem cells2 {a b : Value} {l : List Value} {i : Nat} : (a :: b :: l)[2 + i]? = l[i]? := by rw [Nat.add_comm]; rfl
theorem set2 {a b v : Value} {l : List Value} {i : Nat} : (a :: b :: l).set (2 + i) v = a :: b :: l.set i v := by rw [Nat.add_comm]; rfl
theorem hcell {a b : Value} {h : List Int} {t d : Nat} {v : Int} (hv : h[t * 6 + d]? = some v) : (a :: b :: hCells h)[2 + t * 6 + d]? = some (.int .i64 v) := by rw [Nat.add_assoc, cells2, hCells, List.getElem?_map, hv]; rfl
theorem hset {a b : Value} {h : List Int} {t d : Nat} {v : Int} : (a :: b :: hCells h).set (2 + t * 6 + d) (.int .i64 v) = a :: b :: hCells (h.set (t * 6 + d) v) := by rw [Nat.add_assoc, set2, hCells, hCells, List.map_set]
def CrsH (gx gc gm : Nat) (Vd Vn : Value) (x : Crs) : HP := HP.many [HP.blk gx 116 (Vd :: .pointer (some ⟨gc, 0, none⟩) :: hCells x.h), CntH gc gm Vn x.c]
theorem CntH.roc {gc gm : Nat} {v : Value} {c : Cn} {w : World} (h : ∃ F, (CntH gc gm v c).sat F w) : ROc w gc 2 (.bool c.asl) := by
  obtain ⟨F, G, h1, _⟩ := h
  have hb : Blk w gc _ _ := (h1 0 _ rfl).2
  exact ⟨hb.lt, by rw [hb.cell]; rfl⟩

theorem eff_m (gx gc gm nd kd kn : Nat) (Ad An : Option Addr) (devs : List Dev) (x : Crs) (t : Nat) (ck dev reg cv : Int) (w : World) (F : Nat → Prop) (hp : (CrsH gx gc gm (.slice Ad nd kd) (.slice An nd kn) x).sat F w) (hF : ∀ b, F b → b < w.heap.size)
    (hdev : RsR (slq ⟨w, fun b => b < w.heap.size ∧ ¬ F b⟩) (DevR (slq ⟨w, fun b => b < w.heap.size ∧ ¬ F b⟩)) 94 6 Ad nd devs) (hnd : nd = devs.length) (hnd6 : nd ≤ 6) (ht : t < 3) (hl : x.h.length = 18) :
    Calls Tryz.prog 43 #[.pointer (some ⟨gx, 0, none⟩), .int .i64 (t : Int), .agg #[.int .u8 ck, .int .i64 dev, .int .i64 reg, .int .u32 cv]] w (fun y w' => y = .returned (.int .i64 (effF devs x t ck dev reg).1) ∧ ∃ F', (CrsH gx gc gm (.slice Ad nd kd) (.slice An nd kn) (effF devs x t ck dev reg).2).sat F' w' ∧ Turns w w' F F') := by
  refine XK.enterM (p := CrsH gx gc gm (.slice Ad nd kd) (.slice An nd kn) x) (F := F) (vs := [.pointer (some ⟨gx, 0, none⟩), .int .i64 (t : Int), .agg #[.int .u8 ck, .int .i64 dev, .int .i64 reg, .int .u32 cv]]) Tryz.func43 rfl Tryz.ntmps43 (by simp) hp hF ?_
  unfold CrsH
  refine XK.take 0 0 rfl rfl ?_
  dsimp only [List.set]
  refine XK.take 1 1 rfl rfl ?_
  dsimp only [List.set]
  refine XK.seq ?_

  refine XK.region ?_
  refine xk_box rfl (by decide) fun g1 => ?_
  refine xk_assign rfl (by decide) ?_
  refine XK.nilN ?_
  refine XK.cutB 7 (0 ≤ dev ∧ dev < (nd : Int)) ?_ ?_
  · skip

    refine XK.draw 11 (by kernel_rfl) (by kernel_rfl) ?_
    refine XA.dA 0 rfl rfl rfl (does_field (off := 1) (by kernel_rfl) rfl) ?_
    refine XA.dA 1 rfl rfl rfl (does_ld rfl) ?_
    refine XA.dA 2 rfl rfl rfl (does_geq rfl rfl) ?_
    refine XA.dA 3 rfl rfl rfl (does_move rfl) ?_
    (first | refine XA.split (t := 13) rfl (fun hg => ?_) (fun hg => ?_) | refine XA.splitB (t := 13) rfl (fun hg => ?_) (fun hg => ?_))
    ·
      refine XA.dT 4 rfl rfl rfl (does_field (off := 1) (by kernel_rfl) rfl) ?_
      refine XA.dT 5 rfl rfl rfl (does_ld rfl) ?_
      refine XA.dT 6 rfl rfl rfl (does_move rfl) ?_
      refine XA.dT 7 rfl rfl rfl (does_nilC rfl) ?_
      refine XA.dT 8 rfl rfl rfl (does_field (off := 0) (by kernel_rfl) rfl) ?_
      refine XA.dT 9 rfl rfl rfl (does_ld rfl) ?_
      refine XA.dT 10 rfl rfl rfl (does_len (el := 94) (by kernel_rfl) rfl) ?_
      refine XA.next 11 rfl (by kernel_rfl) ?_
      refine xk_guardT rfl rfl ?_; refine xk_lss rfl rfl (by decide) ?_
      refine XA.bt ?_
      refine XA.next 12 rfl (by kernel_rfl) ?_
      (first | refine xk_pickT rfl rfl (by decide) ?_ | refine xk_pickF rfl rfl (by decide) ?_)
      refine XA.bt ?_
      refine XA.next 13 rfl (by kernel_rfl) ?_
      refine xk_assign rfl (by decide) ?_
      refine XA.bt ?_
      refine XA.done (by kernel_rfl) ?_
      refine XK.norm ?_
      exact XK.meetB (by repeat (first | exact trivial | refine ⟨rfl, ?_⟩)) (by first | (refine get_iff rfl ?_; omega) | (refine get_iff rfl ?_; simp_all; done) | (refine get_false rfl ?_; first | omega | (simp_all; done)) | (refine get_true rfl ?_; first | omega | (simp_all; done)) | (refine get_bool rfl ?_; simp_all; done) | (refine get_iff rfl ⟨fun hh => ?_, fun hh => ?_⟩ <;> first | omega | (simp_all; done) | (simp_all; omega)) | (exfalso; omega))
    ·
      refine XA.dF 4 rfl rfl rfl rfl ?_
      refine XA.dF 5 rfl rfl rfl rfl ?_
      refine XA.dF 6 rfl rfl rfl rfl ?_
      refine XA.dF 7 rfl rfl rfl rfl ?_
      refine XA.dF 8 rfl rfl rfl rfl ?_
      refine XA.dF 9 rfl rfl rfl rfl ?_
      refine XA.dF 10 rfl rfl rfl rfl ?_
      refine XA.next 11 rfl (by kernel_rfl) ?_
      refine xk_guardF rfl rfl rfl (by decide) ?_
      refine XA.bt ?_
      refine XA.next 12 rfl (by kernel_rfl) ?_
      (first | refine xk_pickT rfl rfl (by decide) ?_ | refine xk_pickF rfl rfl (by decide) ?_)
      refine XA.bt ?_
      refine XA.next 13 rfl (by kernel_rfl) ?_
      refine xk_assign rfl (by decide) ?_
      refine XA.bt ?_
      refine XA.done (by kernel_rfl) ?_
      refine XK.norm ?_
      exact XK.meetB (by repeat (first | exact trivial | refine ⟨rfl, ?_⟩)) (by first | (refine get_iff rfl ?_; omega) | (refine get_iff rfl ?_; simp_all; done) | (refine get_false rfl ?_; first | omega | (simp_all; done)) | (refine get_true rfl ?_; first | omega | (simp_all; done)) | (refine get_bool rfl ?_; simp_all; done) | (refine get_iff rfl ⟨fun hh => ?_, fun hh => ?_⟩ <;> first | omega | (simp_all; done) | (simp_all; omega)) | (exfalso; omega))
  refine XK.seq ?_
  refine XK.seq ?_

  refine XK.region ?_
  refine xk_field (off := 0) (by kernel_rfl) rfl (by decide) ?_
  refine xk_ld rfl ?_
  refine XK.nilN ?_
  refine XK.block ?_
  refine XK.seq ?_

  refine XK.region ?_
  refine xk_eql rfl rfl (by decide) ?_
  refine xk_assign rfl (by decide) ?_
  refine XK.nilN ?_
  refine XK.if_ rfl (fun h => ?_) (fun h => ?_)
  ·
    refine XK.seq ?_

    refine XK.draw 6 (by kernel_rfl) (by kernel_rfl) ?_
    refine XA.dA 0 rfl rfl rfl (does_move rfl) ?_
    refine XA.dA 1 rfl rfl rfl (does_nilC rfl) ?_
    refine XA.dA 2 rfl rfl rfl (does_field (off := 1) (by kernel_rfl) rfl) ?_
    refine XA.dA 3 rfl rfl rfl (does_ld rfl) ?_
    refine XA.dA 4 rfl rfl rfl (does_field (off := 1) (by kernel_rfl) rfl) ?_
    refine XA.dA 5 rfl rfl rfl (does_ld rfl) ?_
    refine XA.next 6 rfl (by kernel_rfl) ?_
    refine xk_callM (f := 67) (fi := []) (ca := []) 1 (CntH gc gm (.slice An nd kn) (cget nd x.c dev).2) (by kernel_rfl) rfl rfl rfl ⟨by decide, rfl⟩ (fun w1 F1 st hp1 hF1 => get_m gc gm nd kn An x.c dev w1 F1 hp1 hF1) ?_
    dsimp only [List.set]
    refine XA.bt ?_
    refine XA.next 7 rfl (by kernel_rfl) ?_
    refine xk_assign rfl (by decide) ?_
    refine XA.bt ?_
    refine XA.done (by kernel_rfl) ?_
    refine XK.norm ?_
    refine XK.seq ?_
    refine XK.seq ?_

    refine XK.region ?_
    refine xk_move rfl (by decide) ?_
    refine xk_eql rfl rfl (by decide) ?_
    refine XK.nilN ?_
    refine XK.if_ rfl (fun h => ?_) (fun h => ?_)
    ·

      have hkn := cget_known h
      obtain ⟨dk, rfl⟩ : ∃ dk : Nat, dev = (dk : Int) := ⟨dev.toNat, by omega⟩
      have hdk : dk < nd := by omega
      obtain ⟨hv0, hv⟩ : ∃ v, x.h[t * 6 + dk]? = some v := ⟨_, List.getElem?_eq_getElem (by omega)⟩
      have hva : hAt x.h t dk = hv0 := by rw [hAt, hv]; rfl
      refine XK.draw 13 (by kernel_rfl) (by kernel_rfl) ?_
      refine XA.dA 0 rfl rfl rfl (does_move rfl) ?_
      refine XA.dA 1 rfl rfl rfl (does_move rfl) ?_
      refine XA.dA 2 rfl rfl rfl (does_field (off := 1) (by kernel_rfl) rfl) ?_
      refine XA.dA 3 rfl rfl rfl (does_ld rfl) ?_
      refine XA.dA 4 rfl rfl rfl (does_nilC rfl) ?_
      refine XA.dA 5 rfl rfl rfl (does_field (off := 2) (by kernel_rfl) rfl) ?_
      refine XA.dA 6 rfl rfl rfl (does_atA (t) (2 + t * 6) (n := 3) (el := 113) (sz := 6) (by kernel_rfl) (by kernel_rfl) rfl rfl (by omega) (by omega) (by omega)) ?_
      refine XA.dA 7 rfl rfl rfl (does_atA (dk) (2 + t * 6 + dk) (n := 6) (el := 3) (sz := 1) (by kernel_rfl) (by kernel_rfl) rfl rfl (by omega) (by omega) (by omega)) ?_
      refine XA.dA 8 rfl rfl rfl (does_load (by kernel_rfl) rfl (Rd.blk 2 rfl (hcell hv))) ?_
      refine XA.dA 9 rfl rfl rfl (does_add rfl rfl rfl) ?_
      refine XA.dA 10 rfl rfl rfl (does_nilC rfl) ?_
      refine XA.dA 11 rfl rfl rfl (does_field (off := 2) (by kernel_rfl) rfl) ?_
      refine XA.dA 12 rfl rfl rfl (does_atA (t) (2 + t * 6) (n := 3) (el := 113) (sz := 6) (by kernel_rfl) (by kernel_rfl) rfl rfl (by omega) (by omega) (by omega)) ?_
      refine XA.next 13 rfl (by kernel_rfl) ?_
      refine xk_atA (dk) (2 + t * 6 + dk) (n := 6) (el := 3) (sz := 1) (by kernel_rfl) (by kernel_rfl) rfl rfl (by omega) (by omega) (by omega) (by decide) ?_
      refine XA.bt ?_
      refine XA.next 14 rfl (by kernel_rfl) ?_
      refine xk_store 2 rfl (by kernel_rfl) rfl rfl rfl (by simp [hCells]; omega) ?_
      dsimp only [List.set]
      rw [hset]
      refine XA.bt ?_
      refine XA.done (by kernel_rfl) ?_
      refine XK.norm ?_
      refine XK.seq ?_

      refine XK.region ?_
      refine xk_move rfl (by decide) ?_
      refine xk_assign rfl (by decide) ?_
      refine XK.nilN ?_
      refine XK.ret ?_
      refine XK.norm ?_
      have hr : effF devs x t ck dk reg = ((cget nd x.c dk).1, ⟨(cget nd x.c dk).2, x.h.set (t * 6 + dk) (IntKind.i64.wrap (hv0 + 1))⟩) := by unfold effF; simp_all
      refine XK.weak [1, 2, 3] rfl (by decide) (fun _ hp => hp) ?_
      refine XK.give 1 1 rfl rfl ?_
      dsimp only [List.set]
      refine XK.give 0 0 rfl rfl ?_
      dsimp only [List.set]
      refine XK.ret1 rfl rfl fun w1 st => ?_
      rw [hr]
      exact ⟨rfl, st.turns hF (by simp) (i := 0) rfl⟩
    ·
      refine XK.skip ?_
      refine XK.norm ?_
      refine XK.seq ?_

      refine XK.region ?_
      refine xk_move rfl (by decide) ?_
      refine xk_assign rfl (by decide) ?_
      refine XK.nilN ?_
      refine XK.ret ?_
      refine XK.norm ?_
      have hr : effF devs x t ck dev reg = ((cget nd x.c dev).1, ⟨(cget nd x.c dev).2, x.h⟩) := by unfold effF; simp_all
      refine XK.weak [1, 2, 3] rfl (by decide) (fun _ hp => hp) ?_
      refine XK.give 1 1 rfl rfl ?_
      dsimp only [List.set]
      refine XK.give 0 0 rfl rfl ?_
      dsimp only [List.set]
      refine XK.ret1 rfl rfl fun w1 st => ?_
      rw [hr]
      exact ⟨rfl, st.turns hF (by simp) (i := 0) rfl⟩
  ·
    refine XK.seq ?_

    refine XK.region ?_
    refine xk_eql rfl rfl (by decide) ?_
    refine xk_assign rfl (by decide) ?_
    refine XK.nilN ?_
    refine XK.if_ rfl (fun h => ?_) (fun h => ?_)
    ·
      refine XK.seq ?_
      refine XK.seq ?_

      refine XK.region ?_
      refine xk_move rfl (by decide) ?_
      (first | refine xk_notD rfl (by decide) ?_ | refine xk_not rfl (by decide) ?_)
      refine XK.nilN ?_
      refine XK.if_ rfl (fun h => ?_) (fun h => ?_)
      ·
        refine XK.seq ?_

        refine XK.region ?_
        refine xk_assign rfl (by decide) ?_
        refine XK.nilN ?_
        refine XK.ret ?_
        refine XK.norm ?_
        have hr : effF devs x t ck dev reg = (4, x) := by unfold effF; simp_all
        refine XK.weak [1, 2, 3] rfl (by decide) (fun _ hp => hp) ?_
        refine XK.give 1 1 rfl rfl ?_
        dsimp only [List.set]
        refine XK.give 0 0 rfl rfl ?_
        dsimp only [List.set]
        refine XK.ret1 rfl rfl fun w1 st => ?_
        rw [hr]
        exact ⟨rfl, st.turns hF (by simp) (i := 0) rfl⟩
      ·
        refine XK.skip ?_
        refine XK.norm ?_
        refine XK.seq ?_
        refine XK.seq ?_

        have hkn : 0 ≤ dev ∧ dev < (nd : Int) := by simp_all
        obtain ⟨dk, rfl⟩ : ∃ dk : Nat, dev = (dk : Int) := ⟨dev.toNat, by omega⟩
        have hdk : dk < nd := by omega
        obtain ⟨hv0, hv⟩ : ∃ v, x.h[t * 6 + dk]? = some v := ⟨_, List.getElem?_eq_getElem (by omega)⟩
        have hva : hAt x.h t dk = hv0 := by rw [hAt, hv]; rfl
        refine XK.draw 7 (by kernel_rfl) (by kernel_rfl) ?_
        refine XA.dA 0 rfl rfl rfl (does_move rfl) ?_
        refine XA.dA 1 rfl rfl rfl (does_move rfl) ?_
        refine XA.dA 2 rfl rfl rfl (does_field (off := 1) (by kernel_rfl) rfl) ?_
        refine XA.dA 3 rfl rfl rfl (does_ld rfl) ?_
        refine XA.dA 4 rfl rfl rfl (does_nilC rfl) ?_
        refine XA.dA 5 rfl rfl rfl (does_field (off := 2) (by kernel_rfl) rfl) ?_
        refine XA.dA 6 rfl rfl rfl (does_atA (t) (2 + t * 6) (n := 3) (el := 113) (sz := 6) (by kernel_rfl) (by kernel_rfl) rfl rfl (by omega) (by omega) (by omega)) ?_
        refine XA.next 7 rfl (by kernel_rfl) ?_
        refine xk_atA (dk) (2 + t * 6 + dk) (n := 6) (el := 3) (sz := 1) (by kernel_rfl) (by kernel_rfl) rfl rfl (by omega) (by omega) (by omega) (by decide) ?_
        refine XA.bt ?_
        refine XA.next 8 rfl (by kernel_rfl) ?_
        refine xk_load (by kernel_rfl) rfl (Rd.blk 2 rfl (hcell hv)) (by decide) ?_
        refine XA.bt ?_
        refine XA.next 9 rfl (by kernel_rfl) ?_
        refine xk_eql rfl rfl (by decide) ?_
        refine XA.bt ?_
        refine XA.done (by kernel_rfl) ?_
        refine XK.norm ?_
        refine XK.if_ rfl (fun h => ?_) (fun h => ?_)
        ·
          refine XK.seq ?_

          refine XK.region ?_
          refine xk_assign rfl (by decide) ?_
          refine XK.nilN ?_
          refine XK.ret ?_
          refine XK.norm ?_
          have hr : effF devs x t ck dk reg = (6, x) := by unfold effF; simp_all
          refine XK.weak [1, 2, 3] rfl (by decide) (fun _ hp => hp) ?_
          refine XK.give 1 1 rfl rfl ?_
          dsimp only [List.set]
          refine XK.give 0 0 rfl rfl ?_
          dsimp only [List.set]
          refine XK.ret1 rfl rfl fun w1 st => ?_
          rw [hr]
          exact ⟨rfl, st.turns hF (by simp) (i := 0) rfl⟩
        ·
          refine XK.skip ?_
          refine XK.norm ?_
          refine XK.seq ?_

          refine XK.draw 6 (by kernel_rfl) (by kernel_rfl) ?_
          refine XA.dA 0 rfl rfl rfl (does_move rfl) ?_
          refine XA.dA 1 rfl rfl rfl (does_nilC rfl) ?_
          refine XA.dA 2 rfl rfl rfl (does_field (off := 1) (by kernel_rfl) rfl) ?_
          refine XA.dA 3 rfl rfl rfl (does_ld rfl) ?_
          refine XA.dA 4 rfl rfl rfl (does_field (off := 1) (by kernel_rfl) rfl) ?_
          refine XA.dA 5 rfl rfl rfl (does_ld rfl) ?_
          refine XA.next 6 rfl (by kernel_rfl) ?_
          refine xk_callM (f := 68) (fi := []) (ca := []) 1 (CntH gc gm (.slice An nd kn) (cput nd x.c dk).2) (by kernel_rfl) rfl rfl rfl ⟨by decide, rfl⟩ (fun w1 F1 st hp1 hF1 => put_m gc gm nd kn An x.c dk w1 F1 hp1 hF1) ?_
          dsimp only [List.set]
          refine XA.bt ?_
          refine XA.next 7 rfl (by kernel_rfl) ?_
          refine xk_assign rfl (by decide) ?_
          refine XA.bt ?_
          refine XA.done (by kernel_rfl) ?_
          refine XK.norm ?_
          refine XK.seq ?_
          refine XK.seq ?_

          refine XK.region ?_
          refine xk_move rfl (by decide) ?_
          refine xk_eql rfl rfl (by decide) ?_
          refine XK.nilN ?_
          refine XK.if_ rfl (fun h => ?_) (fun h => ?_)
          ·

            refine XK.draw 13 (by kernel_rfl) (by kernel_rfl) ?_
            refine XA.dA 0 rfl rfl rfl (does_move rfl) ?_
            refine XA.dA 1 rfl rfl rfl (does_move rfl) ?_
            refine XA.dA 2 rfl rfl rfl (does_field (off := 1) (by kernel_rfl) rfl) ?_
            refine XA.dA 3 rfl rfl rfl (does_ld rfl) ?_
            refine XA.dA 4 rfl rfl rfl (does_nilC rfl) ?_
            refine XA.dA 5 rfl rfl rfl (does_field (off := 2) (by kernel_rfl) rfl) ?_
            refine XA.dA 6 rfl rfl rfl (does_atA (t) (2 + t * 6) (n := 3) (el := 113) (sz := 6) (by kernel_rfl) (by kernel_rfl) rfl rfl (by omega) (by omega) (by omega)) ?_
            refine XA.dA 7 rfl rfl rfl (does_atA (dk) (2 + t * 6 + dk) (n := 6) (el := 3) (sz := 1) (by kernel_rfl) (by kernel_rfl) rfl rfl (by omega) (by omega) (by omega)) ?_
            refine XA.dA 8 rfl rfl rfl (does_load (by kernel_rfl) rfl (Rd.blk 2 rfl (hcell hv))) ?_
            refine XA.dA 9 rfl rfl rfl (does_sub rfl rfl rfl) ?_
            refine XA.dA 10 rfl rfl rfl (does_nilC rfl) ?_
            refine XA.dA 11 rfl rfl rfl (does_field (off := 2) (by kernel_rfl) rfl) ?_
            refine XA.dA 12 rfl rfl rfl (does_atA (t) (2 + t * 6) (n := 3) (el := 113) (sz := 6) (by kernel_rfl) (by kernel_rfl) rfl rfl (by omega) (by omega) (by omega)) ?_
            refine XA.next 13 rfl (by kernel_rfl) ?_
            refine xk_atA (dk) (2 + t * 6 + dk) (n := 6) (el := 3) (sz := 1) (by kernel_rfl) (by kernel_rfl) rfl rfl (by omega) (by omega) (by omega) (by decide) ?_
            refine XA.bt ?_
            refine XA.next 14 rfl (by kernel_rfl) ?_
            refine xk_store 2 rfl (by kernel_rfl) rfl rfl rfl (by simp [hCells]; omega) ?_
            dsimp only [List.set]
            rw [hset]
            refine XA.bt ?_
            refine XA.done (by kernel_rfl) ?_
            refine XK.norm ?_
            refine XK.seq ?_

            refine XK.region ?_
            refine xk_move rfl (by decide) ?_
            refine xk_assign rfl (by decide) ?_
            refine XK.nilN ?_
            refine XK.ret ?_
            refine XK.norm ?_
            have hr : effF devs x t ck dk reg = ((cput nd x.c dk).1, ⟨(cput nd x.c dk).2, x.h.set (t * 6 + dk) (IntKind.i64.wrap (hv0 - 1))⟩) := by unfold effF; simp_all
            refine XK.weak [1, 2, 3] rfl (by decide) (fun _ hp => hp) ?_
            refine XK.give 1 1 rfl rfl ?_
            dsimp only [List.set]
            refine XK.give 0 0 rfl rfl ?_
            dsimp only [List.set]
            refine XK.ret1 rfl rfl fun w1 st => ?_
            rw [hr]
            exact ⟨rfl, st.turns hF (by simp) (i := 0) rfl⟩
          ·
            refine XK.skip ?_
            refine XK.norm ?_
            refine XK.seq ?_

            refine XK.region ?_
            refine xk_move rfl (by decide) ?_
            refine xk_assign rfl (by decide) ?_
            refine XK.nilN ?_
            refine XK.ret ?_
            refine XK.norm ?_
            have hr : effF devs x t ck dk reg = ((cput nd x.c dk).1, ⟨(cput nd x.c dk).2, x.h⟩) := by unfold effF; simp_all
            refine XK.weak [1, 2, 3] rfl (by decide) (fun _ hp => hp) ?_
            refine XK.give 1 1 rfl rfl ?_
            dsimp only [List.set]
            refine XK.give 0 0 rfl rfl ?_
            dsimp only [List.set]
            refine XK.ret1 rfl rfl fun w1 st => ?_
            rw [hr]
            exact ⟨rfl, st.turns hF (by simp) (i := 0) rfl⟩
    ·
      refine XK.seq ?_

      refine XK.region ?_
      refine xk_eql rfl rfl (by decide) ?_
      refine xk_assign rfl (by decide) ?_
      refine XK.nilN ?_
      refine XK.if_ rfl (fun h => ?_) (fun h => ?_)
      ·
        refine XK.seq ?_

        refine XK.region ?_
        refine xk_move rfl (by decide) ?_
        refine xk_nilC rfl (by decide) ?_
        refine xk_field (off := 1) (by kernel_rfl) rfl (by decide) ?_
        refine xk_ld rfl ?_
        refine xk_callM (f := 69) (fi := []) (ca := []) 1 (CntH gc gm (.slice An nd kn) (csus x.c).2) (by kernel_rfl) rfl rfl rfl ⟨by decide, rfl⟩ (fun w1 F1 st hp1 hF1 => sus_m gc gm nd kn An x.c w1 F1 hp1 hF1) ?_
        dsimp only [List.set]
        refine xk_assign rfl (by decide) ?_
        refine XK.nilN ?_
        refine XK.ret ?_
        refine XK.norm ?_
        have hr : effF devs x t ck dev reg = ((csus x.c).1, ⟨(csus x.c).2, x.h⟩) := by unfold effF; simp_all
        refine XK.weak [1, 2, 3] rfl (by decide) (fun _ hp => hp) ?_
        refine XK.give 1 1 rfl rfl ?_
        dsimp only [List.set]
        refine XK.give 0 0 rfl rfl ?_
        dsimp only [List.set]
        refine XK.ret1 rfl rfl fun w1 st => ?_
        rw [hr]
        exact ⟨rfl, st.turns hF (by simp) (i := 0) rfl⟩
      ·
        refine XK.seq ?_

        refine XK.region ?_
        refine xk_eql rfl rfl (by decide) ?_
        refine xk_assign rfl (by decide) ?_
        refine XK.nilN ?_
        refine XK.if_ rfl (fun h => ?_) (fun h => ?_)
        ·
          refine XK.seq ?_

          refine XK.region ?_
          refine xk_move rfl (by decide) ?_
          refine xk_nilC rfl (by decide) ?_
          refine xk_field (off := 1) (by kernel_rfl) rfl (by decide) ?_
          refine xk_ld rfl ?_
          refine xk_callM (f := 70) (fi := []) (ca := []) 1 (CntH gc gm (.slice An nd kn) (cres x.c).2) (by kernel_rfl) rfl rfl rfl ⟨by decide, rfl⟩ (fun w1 F1 st hp1 hF1 => res_m gc gm nd kn An x.c w1 F1 hp1 hF1) ?_
          dsimp only [List.set]
          refine xk_assign rfl (by decide) ?_
          refine XK.nilN ?_
          refine XK.ret ?_
          refine XK.norm ?_
          have hr : effF devs x t ck dev reg = ((cres x.c).1, ⟨(cres x.c).2, x.h⟩) := by unfold effF; simp_all
          refine XK.weak [1, 2, 3] rfl (by decide) (fun _ hp => hp) ?_
          refine XK.give 1 1 rfl rfl ?_
          dsimp only [List.set]
          refine XK.give 0 0 rfl rfl ?_
          dsimp only [List.set]
          refine XK.ret1 rfl rfl fun w1 st => ?_
          rw [hr]
          exact ⟨rfl, st.turns hF (by simp) (i := 0) rfl⟩
        ·
          refine XK.cutB 103 (ck = 114 ∨ ck = 119) ?_ ?_
          · skip
            refine XK.seq ?_

            refine XK.region ?_
            refine xk_eql rfl rfl (by decide) ?_
            refine xk_assign rfl (by decide) ?_
            refine XK.nilN ?_
            refine XK.if_ rfl (fun h => ?_) (fun h => ?_)
            ·
              refine XK.skip ?_
              refine XK.norm ?_
              exact XK.meetB (by repeat (first | exact trivial | refine ⟨rfl, ?_⟩)) (by first | (refine get_iff rfl ?_; omega) | (refine get_iff rfl ?_; simp_all; done) | (refine get_false rfl ?_; first | omega | (simp_all; done)) | (refine get_true rfl ?_; first | omega | (simp_all; done)) | (refine get_bool rfl ?_; simp_all; done) | (refine get_iff rfl ⟨fun hh => ?_, fun hh => ?_⟩ <;> first | omega | (simp_all; done) | (simp_all; omega)) | (exfalso; omega))
            ·

              refine XK.region ?_
              refine xk_eql rfl rfl (by decide) ?_
              refine xk_assign rfl (by decide) ?_
              refine XK.nilN ?_
              exact XK.meetB (by repeat (first | exact trivial | refine ⟨rfl, ?_⟩)) (by first | (refine get_iff rfl ?_; omega) | (refine get_iff rfl ?_; simp_all; done) | (refine get_false rfl ?_; first | omega | (simp_all; done)) | (refine get_true rfl ?_; first | omega | (simp_all; done)) | (refine get_bool rfl ?_; simp_all; done) | (refine get_iff rfl ⟨fun hh => ?_, fun hh => ?_⟩ <;> first | omega | (simp_all; done) | (simp_all; omega)) | (exfalso; omega))
          refine XK.if_ rfl (fun h => ?_) (fun h => ?_)
          ·
            refine XK.seq ?_
            refine XK.cutB 127 (¬ (0 ≤ dev ∧ dev < (nd : Int)) ∨ reg < 0 ∨ (regsN devs dev.toNat : Int) ≤ reg) ?_ ?_
            · skip

              refine XK.draw 20 (by kernel_rfl) (by kernel_rfl) ?_
              refine XA.dA 0 rfl rfl rfl (does_move rfl) ?_
              refine XA.dA 1 rfl rfl rfl (by first | exact does_notD rfl | exact does_not rfl) ?_
              refine XA.dA 2 rfl rfl rfl (does_move rfl) ?_
              (first | refine XA.split (t := 108) rfl (fun hg => ?_) (fun hg => ?_) | refine XA.splitB (t := 108) rfl (fun hg => ?_) (fun hg => ?_))
              ·
                refine XA.dF 3 rfl rfl rfl rfl ?_
                refine XA.dF 4 rfl rfl rfl rfl ?_
                refine XA.dF 5 rfl rfl rfl rfl ?_
                refine XA.dA 6 rfl rfl rfl (by first | exact does_pickT rfl rfl | exact does_pickF rfl rfl) ?_
                refine XA.dA 7 rfl rfl rfl (does_move rfl) ?_
                refine XA.dF 8 rfl rfl rfl rfl ?_
                refine XA.dF 9 rfl rfl rfl rfl ?_
                refine XA.dF 10 rfl rfl rfl rfl ?_
                refine XA.dF 11 rfl rfl rfl rfl ?_
                refine XA.dF 12 rfl rfl rfl rfl ?_
                refine XA.dF 13 rfl rfl rfl rfl ?_
                refine XA.dF 14 rfl rfl rfl rfl ?_
                refine XA.dF 15 rfl rfl rfl rfl ?_
                refine XA.dF 16 rfl rfl rfl rfl ?_
                refine XA.dF 17 rfl rfl rfl rfl ?_
                refine XA.dF 18 rfl rfl rfl rfl ?_
                refine XA.dF 19 rfl rfl rfl rfl ?_
                refine XA.next 20 rfl (by kernel_rfl) ?_
                refine xk_guardF rfl rfl rfl (by decide) ?_
                refine XA.bt ?_
                refine XA.next 21 rfl (by kernel_rfl) ?_
                (first | refine xk_pickT rfl rfl (by decide) ?_ | refine xk_pickF rfl rfl (by decide) ?_)
                refine XA.bt ?_
                refine XA.done (by kernel_rfl) ?_
                refine XK.norm ?_
                exact XK.meetB (by repeat (first | exact trivial | refine ⟨rfl, ?_⟩)) (by first | (refine get_iff rfl ?_; omega) | (refine get_iff rfl ?_; simp_all; done) | (refine get_false rfl ?_; first | omega | (simp_all; done)) | (refine get_true rfl ?_; first | omega | (simp_all; done)) | (refine get_bool rfl ?_; simp_all; done) | (refine get_iff rfl ⟨fun hh => ?_, fun hh => ?_⟩ <;> first | omega | (simp_all; done) | (simp_all; omega)) | (exfalso; omega))
              ·
                refine XA.dT 3 rfl rfl rfl (does_field (off := 2) (by kernel_rfl) rfl) ?_
                refine XA.dT 4 rfl rfl rfl (does_ld rfl) ?_
                refine XA.dT 5 rfl rfl rfl (does_lss rfl rfl) ?_
                refine XA.dA 6 rfl rfl rfl (by first | exact does_pickT rfl rfl | exact does_pickF rfl rfl) ?_
                refine XA.dA 7 rfl rfl rfl (does_move rfl) ?_
                (first | refine XA.split (t := 113) rfl (fun hg => ?_) (fun hg => ?_) | refine XA.splitB (t := 113) rfl (fun hg => ?_) (fun hg => ?_))
                ·
                  refine XA.dF 8 rfl rfl rfl rfl ?_
                  refine XA.dF 9 rfl rfl rfl rfl ?_
                  refine XA.dF 10 rfl rfl rfl rfl ?_
                  refine XA.dF 11 rfl rfl rfl rfl ?_
                  refine XA.dF 12 rfl rfl rfl rfl ?_
                  refine XA.dF 13 rfl rfl rfl rfl ?_
                  refine XA.dF 14 rfl rfl rfl rfl ?_
                  refine XA.dF 15 rfl rfl rfl rfl ?_
                  refine XA.dF 16 rfl rfl rfl rfl ?_
                  refine XA.dF 17 rfl rfl rfl rfl ?_
                  refine XA.dF 18 rfl rfl rfl rfl ?_
                  refine XA.dF 19 rfl rfl rfl rfl ?_
                  refine XA.next 20 rfl (by kernel_rfl) ?_
                  refine xk_guardF rfl rfl rfl (by decide) ?_
                  refine XA.bt ?_
                  refine XA.next 21 rfl (by kernel_rfl) ?_
                  (first | refine xk_pickT rfl rfl (by decide) ?_ | refine xk_pickF rfl rfl (by decide) ?_)
                  refine XA.bt ?_
                  refine XA.done (by kernel_rfl) ?_
                  refine XK.norm ?_
                  exact XK.meetB (by repeat (first | exact trivial | refine ⟨rfl, ?_⟩)) (by first | (refine get_iff rfl ?_; omega) | (refine get_iff rfl ?_; simp_all; done) | (refine get_false rfl ?_; first | omega | (simp_all; done)) | (refine get_true rfl ?_; first | omega | (simp_all; done)) | (refine get_bool rfl ?_; simp_all; done) | (refine get_iff rfl ⟨fun hh => ?_, fun hh => ?_⟩ <;> first | omega | (simp_all; done) | (simp_all; omega)) | (exfalso; omega))
                ·
                  have hkn : 0 ≤ dev ∧ dev < (nd : Int) := by simp_all
                  obtain ⟨dk, rfl⟩ : ∃ dk : Nat, dev = (dk : Int) := ⟨dev.toNat, by omega⟩
                  have hdk : dk < nd := by omega
                  obtain ⟨y, hy⟩ : ∃ y, devs[dk]? = some y := ⟨_, List.getElem?_eq_getElem (by omega)⟩
                  have hrn : regsN devs dk = y.regs.length := by rw [regsN, hy]; rfl
                  obtain ⟨bV, oV, rV, rfl, hzV, _, hR, hcV⟩ := hdev.rowQ hy
                  obtain ⟨Ar, nr, kr, Ann, nn, knn, rfl, hnr, _⟩ := hR
                  refine XA.dT 8 rfl rfl rfl (does_field (off := 2) (by kernel_rfl) rfl) ?_
                  refine XA.dT 9 rfl rfl rfl (does_ld rfl) ?_
                  refine XA.dT 10 rfl rfl rfl (does_move rfl) ?_
                  refine XA.dT 11 rfl rfl rfl (does_nilC rfl) ?_
                  refine XA.dT 12 rfl rfl rfl (does_field (off := 0) (by kernel_rfl) rfl) ?_
                  refine XA.dT 13 rfl rfl rfl (does_ld rfl) ?_
                  refine XA.dT 14 rfl rfl rfl (does_field (off := 1) (by kernel_rfl) rfl) ?_
                  refine XA.dT 15 rfl rfl rfl (does_ld rfl) ?_
                  refine XA.dT 16 rfl rfl rfl (does_at (dk) (oV + dk * 6) (el := 94) (sz := 6) (by kernel_rfl) (by kernel_rfl) rfl rfl (by omega) (by omega) (by omega)) ?_
                  refine XA.dT 17 rfl rfl rfl (does_field (off := 4) (by kernel_rfl) rfl) ?_
                  refine XA.dT 18 rfl rfl rfl (does_load (by kernel_rfl) rfl (Rd.ro (p := ⟨w, fun b => b < w.heap.size ∧ ¬ F b⟩) (by simp) hzV (hcV 4 _ rfl))) ?_
                  refine XA.dT 19 rfl rfl rfl (does_len (el := 96) (by kernel_rfl) rfl) ?_
                  refine XA.next 20 rfl (by kernel_rfl) ?_
                  refine xk_guardT rfl rfl ?_; refine xk_geq rfl rfl (by decide) ?_
                  refine XA.bt ?_
                  refine XA.next 21 rfl (by kernel_rfl) ?_
                  (first | refine xk_pickT rfl rfl (by decide) ?_ | refine xk_pickF rfl rfl (by decide) ?_)
                  refine XA.bt ?_
                  refine XA.done (by kernel_rfl) ?_
                  refine XK.norm ?_
                  exact XK.meetB (by repeat (first | exact trivial | refine ⟨rfl, ?_⟩)) (get_iff rfl (by rw [Int.toNat_natCast, hrn]; omega))
            refine XK.if_ rfl (fun h => ?_) (fun h => ?_)
            ·
              refine XK.seq ?_

              refine XK.region ?_
              refine xk_assign rfl (by decide) ?_
              refine XK.nilN ?_
              refine XK.ret ?_
              refine XK.norm ?_
              have hr : effF devs x t ck dev reg = (4, x) := by unfold effF; simp_all
              refine XK.weak [1, 2, 3] rfl (by decide) (fun _ hp => hp) ?_
              refine XK.give 1 1 rfl rfl ?_
              dsimp only [List.set]
              refine XK.give 0 0 rfl rfl ?_
              dsimp only [List.set]
              refine XK.ret1 rfl rfl fun w1 st => ?_
              rw [hr]
              exact ⟨rfl, st.turns hF (by simp) (i := 0) rfl⟩
            ·
              refine XK.skip ?_
              refine XK.norm ?_
              refine XK.cutB 144 (hAt x.h t dev.toNat = 0 ∨ x.c.asl = true) ?_ ?_
              · skip

                have hkn : 0 ≤ dev ∧ dev < (nd : Int) := by omega
                obtain ⟨dk, rfl⟩ : ∃ dk : Nat, dev = (dk : Int) := ⟨dev.toNat, by omega⟩
                have hdk : dk < nd := by omega
                obtain ⟨hv0, hv⟩ : ∃ v, x.h[t * 6 + dk]? = some v := ⟨_, List.getElem?_eq_getElem (by omega)⟩
                have hva : hAt x.h t dk = hv0 := by rw [hAt, hv]; rfl
                refine XK.draw 7 (by kernel_rfl) (by kernel_rfl) ?_
                refine XA.dA 0 rfl rfl rfl (does_move rfl) ?_
                refine XA.dA 1 rfl rfl rfl (does_move rfl) ?_
                refine XA.dA 2 rfl rfl rfl (does_field (off := 1) (by kernel_rfl) rfl) ?_
                refine XA.dA 3 rfl rfl rfl (does_ld rfl) ?_
                refine XA.dA 4 rfl rfl rfl (does_nilC rfl) ?_
                refine XA.dA 5 rfl rfl rfl (does_field (off := 2) (by kernel_rfl) rfl) ?_
                refine XA.dA 6 rfl rfl rfl (does_atA (t) (2 + t * 6) (n := 3) (el := 113) (sz := 6) (by kernel_rfl) (by kernel_rfl) rfl rfl (by omega) (by omega) (by omega)) ?_
                refine XA.next 7 rfl (by kernel_rfl) ?_
                refine xk_atA (dk) (2 + t * 6 + dk) (n := 6) (el := 3) (sz := 1) (by kernel_rfl) (by kernel_rfl) rfl rfl (by omega) (by omega) (by omega) (by decide) ?_
                refine XA.bt ?_
                refine XA.next 8 rfl (by kernel_rfl) ?_
                refine xk_load (by kernel_rfl) rfl (Rd.blk 2 rfl (hcell hv)) (by decide) ?_
                refine XA.bt ?_
                refine XA.next 9 rfl (by kernel_rfl) ?_
                refine xk_eql rfl rfl (by decide) ?_
                refine XA.bt ?_
                refine XA.next 10 rfl (by kernel_rfl) ?_
                refine xk_move rfl (by decide) ?_
                refine XA.bt ?_
                (first | refine XA.split (t := 138) rfl (fun hg => ?_) (fun hg => ?_) | refine XA.splitB (t := 138) rfl (fun hg => ?_) (fun hg => ?_))
                ·
                  refine XA.next 11 rfl (by kernel_rfl) ?_
                  refine xk_guardF rfl rfl rfl (by decide) ?_
                  refine XA.bt ?_
                  refine XA.next 12 rfl (by kernel_rfl) ?_
                  refine xk_guardF rfl rfl rfl (by decide) ?_
                  refine XA.bt ?_
                  refine XA.next 13 rfl (by kernel_rfl) ?_
                  refine xk_guardF rfl rfl rfl (by decide) ?_
                  refine XA.bt ?_
                  refine XA.next 14 rfl (by kernel_rfl) ?_
                  refine xk_guardF rfl rfl rfl (by decide) ?_
                  refine XA.bt ?_
                  refine XA.next 15 rfl (by kernel_rfl) ?_
                  refine xk_guardF rfl rfl rfl (by decide) ?_
                  refine XA.bt ?_
                  refine XA.next 16 rfl (by kernel_rfl) ?_
                  (first | refine xk_pickT rfl rfl (by decide) ?_ | refine xk_pickF rfl rfl (by decide) ?_)
                  refine XA.bt ?_
                  refine XA.done (by kernel_rfl) ?_
                  refine XK.norm ?_
                  exact XK.meetB (by repeat (first | exact trivial | refine ⟨rfl, ?_⟩)) (by first | (refine get_iff rfl ?_; omega) | (refine get_iff rfl ?_; simp_all; done) | (refine get_false rfl ?_; first | omega | (simp_all; done)) | (refine get_true rfl ?_; first | omega | (simp_all; done)) | (refine get_bool rfl ?_; simp_all; done) | (refine get_iff rfl ⟨fun hh => ?_, fun hh => ?_⟩ <;> first | omega | (simp_all; done) | (simp_all; omega)) | (exfalso; omega))
                ·
                  refine XA.next 11 rfl (by kernel_rfl) ?_
                  refine xk_guardT rfl rfl ?_; refine xk_move rfl (by decide) ?_
                  refine XA.bt ?_
                  refine XA.next 12 rfl (by kernel_rfl) ?_
                  refine xk_guardT rfl rfl ?_; refine xk_nilC rfl (by decide) ?_
                  refine XA.bt ?_
                  refine XA.next 13 rfl (by kernel_rfl) ?_
                  refine xk_guardT rfl rfl ?_; refine xk_field (off := 1) (by kernel_rfl) rfl (by decide) ?_
                  refine XA.bt ?_
                  refine XA.next 14 rfl (by kernel_rfl) ?_
                  refine xk_guardT rfl rfl ?_; refine xk_ld rfl ?_
                  refine XA.bt ?_
                  refine XA.next 15 rfl (by kernel_rfl) ?_
                  refine xk_guardT rfl rfl ?_; refine xk_callR (f := 71) (fi := []) (ca := []) (by kernel_rfl) rfl rfl (by decide) (fun w1 st => asleep_any gc x.c.asl w1 (CntH.roc (st.sat (i := 1) rfl))) ?_
                  refine XA.bt ?_
                  refine XA.next 16 rfl (by kernel_rfl) ?_
                  (first | refine xk_pickT rfl rfl (by decide) ?_ | refine xk_pickF rfl rfl (by decide) ?_)
                  refine XA.bt ?_
                  refine XA.done (by kernel_rfl) ?_
                  refine XK.norm ?_
                  exact XK.meetB (by repeat (first | exact trivial | refine ⟨rfl, ?_⟩)) (by show some (Value.bool x.c.asl) = some (Value.bool (decide _)); congr 2; simp [hva, hg])
              refine XK.if_ rfl (fun h => ?_) (fun h => ?_)
              ·
                refine XK.seq ?_

                refine XK.region ?_
                refine xk_assign rfl (by decide) ?_
                refine XK.nilN ?_
                refine XK.ret ?_
                refine XK.norm ?_
                have hr : effF devs x t ck dev reg = (6, x) := by unfold effF; simp_all
                refine XK.weak [1, 2, 3] rfl (by decide) (fun _ hp => hp) ?_
                refine XK.give 1 1 rfl rfl ?_
                dsimp only [List.set]
                refine XK.give 0 0 rfl rfl ?_
                dsimp only [List.set]
                refine XK.ret1 rfl rfl fun w1 st => ?_
                rw [hr]
                exact ⟨rfl, st.turns hF (by simp) (i := 0) rfl⟩
              ·
                refine XK.skip ?_
                refine XK.norm ?_
                refine XK.seq ?_

                refine XK.region ?_
                refine xk_assign rfl (by decide) ?_
                refine XK.nilN ?_
                refine XK.ret ?_
                refine XK.norm ?_
                have hr : effF devs x t ck dev reg = (0, x) := by unfold effF; simp_all
                refine XK.weak [1, 2, 3] rfl (by decide) (fun _ hp => hp) ?_
                refine XK.give 1 1 rfl rfl ?_
                dsimp only [List.set]
                refine XK.give 0 0 rfl rfl ?_
                dsimp only [List.set]
                refine XK.ret1 rfl rfl fun w1 st => ?_
                rw [hr]
                exact ⟨rfl, st.turns hF (by simp) (i := 0) rfl⟩
          ·
            refine XK.skip ?_
            refine XK.norm ?_
            refine XK.seq ?_

            refine XK.region ?_
            refine xk_assign rfl (by decide) ?_
            refine XK.nilN ?_
            refine XK.ret ?_
            refine XK.norm ?_
            have hr : effF devs x t ck dev reg = (0, x) := by unfold effF; simp_all
            refine XK.weak [1, 2, 3] rfl (by decide) (fun _ hp => hp) ?_
            refine XK.give 1 1 rfl rfl ?_
            dsimp only [List.set]
            refine XK.give 0 0 rfl rfl ?_
            dsimp only [List.set]
            refine XK.ret1 rfl rfl fun w1 st => ?_
            rw [hr]
            exact ⟨rfl, st.turns hF (by simp) (i := 0) rfl⟩

end Go.Proofs.YtbgibbbggajgaaaGreat
/- The reference's counts. -/
namespace Go.Proofs.YtbgibbbggajgaaaGreat
set_option linter.all false
open Go.RowKit
/-- the reference's counts, in plain words: of each device; asleep -/
structure Rn where
  n : List Int
  a : Bool
def rAt (l : List Int) (d : Int) : Int := l[d.toNat]?.getD 0
def rget (c : Rn) (dev : Int) : Int × Rn := if c.a then (6, c) else if dev < 0 ∨ (c.n.length : Int) ≤ dev then (4, c) else if 7 ≤ rAt c.n dev then (8, c) else (0, ⟨c.n.set dev.toNat (IntKind.i64.wrap (rAt c.n dev + 1)), c.a⟩)
def rput (c : Rn) (dev : Int) : Int × Rn := if c.a then (6, c) else if dev < 0 ∨ (c.n.length : Int) ≤ dev then (4, c) else if rAt c.n dev = 0 then (6, c) else (0, ⟨c.n.set dev.toNat (IntKind.i64.wrap (rAt c.n dev - 1)), c.a⟩)
def rsus (c : Rn) : Int × Rn := if c.a then (6, c) else (0, ⟨c.n, true⟩)
def rres (c : Rn) : Int × Rn := if c.a then (0, ⟨c.n, false⟩) else (6, c)
/-- .. and where they lie -/
def RnH (gc gn : Nat) (v : Value) (nd : Nat) (c : Rn) : HP := HP.many [HP.blk gc 151 [v, .slice (some ⟨gn, 0, none⟩) nd nd, .bool c.a], HP.blk gn 3 (intCells c.n)]
theorem intCells_at2 {l : List Int} {i : Nat} {x : Int} (h : l[i]? = some x) : (intCells l)[i]? = some (.int .i64 x) := by rw [intCells, List.getElem?_map, h]; rfl
theorem intCells_set2 (l : List Int) (i : Nat) (x : Int) : (intCells l).set i (.int .i64 x) = intCells (l.set i x) := by simp [intCells, List.map_set]
theorem intCells_len2 (l : List Int) : (intCells l).length = l.length := by simp [intCells]

theorem rget_m (gc gn nd : Nat) (v : Value) (c : Rn) (dev : Int) (w : World) (F : Nat → Prop) (hp : (RnH gc gn v nd c).sat F w) (hF : ∀ b, F b → b < w.heap.size) (hnd : nd = c.n.length) :
    Calls Tryz.prog 74 #[.pointer (some ⟨gc, 0, none⟩), .int .i64 dev] w (fun y w' => y = .returned (.int .i64 (rget c dev).1) ∧ ∃ F', (RnH gc gn v nd (rget c dev).2).sat F' w' ∧ Turns w w' F F') := by
  refine XK.enterM (p := RnH gc gn v nd c) (F := F) (vs := [.pointer (some ⟨gc, 0, none⟩), .int .i64 dev]) Tryz.func74 rfl Tryz.ntmps74 (by simp) hp hF ?_
  unfold RnH
  refine XK.take 0 0 rfl rfl ?_
  dsimp only [List.set]
  refine XK.take 1 1 rfl rfl ?_
  dsimp only [List.set]
  refine XK.seq ?_

  refine XK.region ?_
  refine xk_assign rfl (by decide) ?_
  refine XK.nilN ?_
  refine XK.seq ?_
  refine XK.seq ?_

  refine XK.region ?_
  refine xk_move rfl (by decide) ?_
  refine xk_nilC rfl (by decide) ?_
  refine xk_field (off := 2) (by kernel_rfl) rfl (by decide) ?_
  refine xk_ld rfl ?_
  refine XK.nilN ?_
  refine XK.cond rfl (fun ha => ?_) (fun ha => ?_)
  ·
    refine XK.seq ?_

    refine XK.region ?_
    refine xk_assign rfl (by decide) ?_
    refine XK.nilN ?_
    refine XK.ret ?_
    refine XK.norm ?_
    have hr : rget c dev = (6, c) := by simp [rget, ha]
    refine XK.give 1 1 rfl rfl ?_
    dsimp only [List.set]
    refine XK.give 0 0 rfl rfl ?_
    dsimp only [List.set]
    refine XK.ret1 rfl rfl fun w1 st => ?_
    rw [hr]
    exact ⟨rfl, st.turns hF (by simp) (i := 0) rfl⟩
  ·
    refine XK.skip ?_
    refine XK.norm ?_
    refine XK.seq ?_
    refine XK.cutB 19 (dev < 0 ∨ (nd : Int) ≤ dev) ?_ ?_
    · skip

      refine XK.region ?_
      refine xk_move rfl (by decide) ?_
      refine xk_lss rfl rfl (by decide) ?_
      refine xk_move rfl (by decide) ?_
      refine xk_split (t := 11) rfl (fun hg => ?_) (fun hg => ?_)
      ·
        refine xk_guardF rfl rfl rfl (by decide) ?_
        refine xk_guardF rfl rfl rfl (by decide) ?_
        refine xk_guardF rfl rfl rfl (by decide) ?_
        refine xk_guardF rfl rfl rfl (by decide) ?_
        refine xk_guardF rfl rfl rfl (by decide) ?_
        refine xk_guardF rfl rfl rfl (by decide) ?_
        refine xk_guardF rfl rfl rfl (by decide) ?_
        (first | refine xk_pickT rfl rfl (by decide) ?_ | refine xk_pickF rfl rfl (by decide) ?_)
        refine XK.nilN ?_
        exact XK.meetB (by repeat (first | exact trivial | refine ⟨rfl, ?_⟩)) (by first | (refine get_true rfl ?_; omega) | (refine get_iff rfl ?_; omega))
      ·
        refine xk_guardT rfl rfl ?_; refine xk_move rfl (by decide) ?_
        refine xk_guardT rfl rfl ?_; refine xk_move rfl (by decide) ?_
        refine xk_guardT rfl rfl ?_; refine xk_nilC rfl (by decide) ?_
        refine xk_guardT rfl rfl ?_; refine xk_field (off := 1) (by kernel_rfl) rfl (by decide) ?_
        refine xk_guardT rfl rfl ?_; refine xk_ld rfl ?_
        refine xk_guardT rfl rfl ?_; refine xk_len (el := 3) (by kernel_rfl) rfl (by decide) ?_
        refine xk_guardT rfl rfl ?_; refine xk_geq rfl rfl (by decide) ?_
        (first | refine xk_pickT rfl rfl (by decide) ?_ | refine xk_pickF rfl rfl (by decide) ?_)
        refine XK.nilN ?_
        exact XK.meetB (by repeat (first | exact trivial | refine ⟨rfl, ?_⟩)) (by first | (refine get_true rfl ?_; omega) | (refine get_iff rfl ?_; omega))
    refine XK.if_ rfl (fun hk => ?_) (fun hk => ?_)
    ·
      refine XK.seq ?_

      refine XK.region ?_
      refine xk_assign rfl (by decide) ?_
      refine XK.nilN ?_
      refine XK.ret ?_
      refine XK.norm ?_
      have hr : rget c dev = (4, c) := by rw [hnd] at hk; simp [rget, ha, hk]
      refine XK.give 1 1 rfl rfl ?_
      dsimp only [List.set]
      refine XK.give 0 0 rfl rfl ?_
      dsimp only [List.set]
      refine XK.ret1 rfl rfl fun w1 st => ?_
      rw [hr]
      exact ⟨rfl, st.turns hF (by simp) (i := 0) rfl⟩
    ·
      refine XK.skip ?_
      refine XK.norm ?_
      refine XK.seq ?_
      refine XK.seq ?_
      obtain ⟨dk, rfl⟩ : ∃ dk : Nat, dev = (dk : Int) := ⟨dev.toNat, by omega⟩
      have hdk : dk < nd := by omega
      obtain ⟨x, hx⟩ : ∃ x, c.n[dk]? = some x := ⟨_, List.getElem?_eq_getElem (by omega)⟩
      have hrx : rAt c.n dk = x := by unfold rAt; rw [show ((dk : Int)).toNat = dk by omega, hx]; rfl

      refine XK.region ?_
      refine xk_move rfl (by decide) ?_
      refine xk_nilC rfl (by decide) ?_
      refine xk_field (off := 1) (by kernel_rfl) rfl (by decide) ?_
      refine xk_ld rfl ?_
      refine xk_move rfl (by decide) ?_
      refine xk_at (dk) (dk) (el := 3) (sz := 1) (by kernel_rfl) (by kernel_rfl) rfl rfl (by omega) (by omega) (by omega) (by decide) ?_
      refine xk_load (by kernel_rfl) rfl (Rd.blk 0 rfl (intCells_at2 hx)) (by decide) ?_
      refine xk_geq rfl rfl (by decide) ?_
      refine XK.nilN ?_
      refine XK.if_ rfl (fun hc => ?_) (fun hc => ?_)
      ·
        refine XK.seq ?_

        refine XK.region ?_
        refine xk_assign rfl (by decide) ?_
        refine XK.nilN ?_
        refine XK.ret ?_
        refine XK.norm ?_
        have hr : rget c (dk : Int) = (8, c) := by rw [hnd] at hk; simp only [rget, ha, hrx, if_neg hk, if_pos hc]; simp
        refine XK.give 1 1 rfl rfl ?_
        dsimp only [List.set]
        refine XK.give 0 0 rfl rfl ?_
        dsimp only [List.set]
        refine XK.ret1 rfl rfl fun w1 st => ?_
        rw [hr]
        exact ⟨rfl, st.turns hF (by simp) (i := 0) rfl⟩
      ·
        refine XK.skip ?_
        refine XK.norm ?_
        refine XK.seq ?_

        refine XK.region ?_
        refine xk_move rfl (by decide) ?_
        refine xk_nilC rfl (by decide) ?_
        refine xk_field (off := 1) (by kernel_rfl) rfl (by decide) ?_
        refine xk_ld rfl ?_
        refine xk_move rfl (by decide) ?_
        refine xk_at (dk) (dk) (el := 3) (sz := 1) (by kernel_rfl) (by kernel_rfl) rfl rfl (by omega) (by omega) (by omega) (by decide) ?_
        refine xk_load (by kernel_rfl) rfl (Rd.blk 0 rfl (intCells_at2 hx)) (by decide) ?_
        refine xk_add rfl rfl rfl (by decide) ?_
        refine xk_at (dk) (dk) (el := 3) (sz := 1) (by kernel_rfl) (by kernel_rfl) rfl rfl (by omega) (by omega) (by omega) (by decide) ?_
        refine xk_store 0 rfl (by kernel_rfl) rfl rfl rfl (by rw [intCells_len2]; omega) ?_
        dsimp only [List.set]
        rw [intCells_set2]
        refine XK.nilN ?_
        refine XK.seq ?_

        refine XK.region ?_
        refine xk_assign rfl (by decide) ?_
        refine XK.nilN ?_
        refine XK.ret ?_
        refine XK.norm ?_
        have hr : rget c (dk : Int) = (0, ⟨c.n.set dk (IntKind.i64.wrap (x + 1)), c.a⟩) := by rw [hnd] at hk; simp only [rget, ha, hrx, if_neg hk, if_neg hc, Int.toNat_natCast]; simp
        refine XK.give 1 1 rfl rfl ?_
        dsimp only [List.set]
        refine XK.give 0 0 rfl rfl ?_
        dsimp only [List.set]
        refine XK.ret1 rfl rfl fun w1 st => ?_
        rw [hr]
        exact ⟨rfl, st.turns hF (by simp) (i := 0) rfl⟩

theorem rput_m (gc gn nd : Nat) (v : Value) (c : Rn) (dev : Int) (w : World) (F : Nat → Prop) (hp : (RnH gc gn v nd c).sat F w) (hF : ∀ b, F b → b < w.heap.size) (hnd : nd = c.n.length) :
    Calls Tryz.prog 77 #[.pointer (some ⟨gc, 0, none⟩), .int .i64 dev] w (fun y w' => y = .returned (.int .i64 (rput c dev).1) ∧ ∃ F', (RnH gc gn v nd (rput c dev).2).sat F' w' ∧ Turns w w' F F') := by
  refine XK.enterM (p := RnH gc gn v nd c) (F := F) (vs := [.pointer (some ⟨gc, 0, none⟩), .int .i64 dev]) Tryz.func77 rfl Tryz.ntmps77 (by simp) hp hF ?_
  unfold RnH
  refine XK.take 0 0 rfl rfl ?_
  dsimp only [List.set]
  refine XK.take 1 1 rfl rfl ?_
  dsimp only [List.set]
  refine XK.seq ?_

  refine XK.region ?_
  refine xk_assign rfl (by decide) ?_
  refine XK.nilN ?_
  refine XK.seq ?_
  refine XK.seq ?_

  refine XK.region ?_
  refine xk_move rfl (by decide) ?_
  refine xk_nilC rfl (by decide) ?_
  refine xk_field (off := 2) (by kernel_rfl) rfl (by decide) ?_
  refine xk_ld rfl ?_
  refine XK.nilN ?_
  refine XK.cond rfl (fun ha => ?_) (fun ha => ?_)
  ·
    refine XK.seq ?_

    refine XK.region ?_
    refine xk_assign rfl (by decide) ?_
    refine XK.nilN ?_
    refine XK.ret ?_
    refine XK.norm ?_
    have hr : rput c dev = (6, c) := by simp [rput, ha]
    refine XK.give 1 1 rfl rfl ?_
    dsimp only [List.set]
    refine XK.give 0 0 rfl rfl ?_
    dsimp only [List.set]
    refine XK.ret1 rfl rfl fun w1 st => ?_
    rw [hr]
    exact ⟨rfl, st.turns hF (by simp) (i := 0) rfl⟩
  ·
    refine XK.skip ?_
    refine XK.norm ?_
    refine XK.seq ?_
    refine XK.cutB 19 (dev < 0 ∨ (nd : Int) ≤ dev) ?_ ?_
    · skip

      refine XK.region ?_
      refine xk_move rfl (by decide) ?_
      refine xk_lss rfl rfl (by decide) ?_
      refine xk_move rfl (by decide) ?_
      refine xk_split (t := 11) rfl (fun hg => ?_) (fun hg => ?_)
      ·
        refine xk_guardF rfl rfl rfl (by decide) ?_
        refine xk_guardF rfl rfl rfl (by decide) ?_
        refine xk_guardF rfl rfl rfl (by decide) ?_
        refine xk_guardF rfl rfl rfl (by decide) ?_
        refine xk_guardF rfl rfl rfl (by decide) ?_
        refine xk_guardF rfl rfl rfl (by decide) ?_
        refine xk_guardF rfl rfl rfl (by decide) ?_
        (first | refine xk_pickT rfl rfl (by decide) ?_ | refine xk_pickF rfl rfl (by decide) ?_)
        refine XK.nilN ?_
        exact XK.meetB (by repeat (first | exact trivial | refine ⟨rfl, ?_⟩)) (by first | (refine get_true rfl ?_; omega) | (refine get_iff rfl ?_; omega))
      ·
        refine xk_guardT rfl rfl ?_; refine xk_move rfl (by decide) ?_
        refine xk_guardT rfl rfl ?_; refine xk_move rfl (by decide) ?_
        refine xk_guardT rfl rfl ?_; refine xk_nilC rfl (by decide) ?_
        refine xk_guardT rfl rfl ?_; refine xk_field (off := 1) (by kernel_rfl) rfl (by decide) ?_
        refine xk_guardT rfl rfl ?_; refine xk_ld rfl ?_
        refine xk_guardT rfl rfl ?_; refine xk_len (el := 3) (by kernel_rfl) rfl (by decide) ?_
        refine xk_guardT rfl rfl ?_; refine xk_geq rfl rfl (by decide) ?_
        (first | refine xk_pickT rfl rfl (by decide) ?_ | refine xk_pickF rfl rfl (by decide) ?_)
        refine XK.nilN ?_
        exact XK.meetB (by repeat (first | exact trivial | refine ⟨rfl, ?_⟩)) (by first | (refine get_true rfl ?_; omega) | (refine get_iff rfl ?_; omega))
    refine XK.if_ rfl (fun hk => ?_) (fun hk => ?_)
    ·
      refine XK.seq ?_

      refine XK.region ?_
      refine xk_assign rfl (by decide) ?_
      refine XK.nilN ?_
      refine XK.ret ?_
      refine XK.norm ?_
      have hr : rput c dev = (4, c) := by rw [hnd] at hk; simp [rput, ha, hk]
      refine XK.give 1 1 rfl rfl ?_
      dsimp only [List.set]
      refine XK.give 0 0 rfl rfl ?_
      dsimp only [List.set]
      refine XK.ret1 rfl rfl fun w1 st => ?_
      rw [hr]
      exact ⟨rfl, st.turns hF (by simp) (i := 0) rfl⟩
    ·
      refine XK.skip ?_
      refine XK.norm ?_
      refine XK.seq ?_
      refine XK.seq ?_
      obtain ⟨dk, rfl⟩ : ∃ dk : Nat, dev = (dk : Int) := ⟨dev.toNat, by omega⟩
      have hdk : dk < nd := by omega
      obtain ⟨x, hx⟩ : ∃ x, c.n[dk]? = some x := ⟨_, List.getElem?_eq_getElem (by omega)⟩
      have hrx : rAt c.n dk = x := by unfold rAt; rw [show ((dk : Int)).toNat = dk by omega, hx]; rfl

      refine XK.region ?_
      refine xk_move rfl (by decide) ?_
      refine xk_nilC rfl (by decide) ?_
      refine xk_field (off := 1) (by kernel_rfl) rfl (by decide) ?_
      refine xk_ld rfl ?_
      refine xk_move rfl (by decide) ?_
      refine xk_at (dk) (dk) (el := 3) (sz := 1) (by kernel_rfl) (by kernel_rfl) rfl rfl (by omega) (by omega) (by omega) (by decide) ?_
      refine xk_load (by kernel_rfl) rfl (Rd.blk 0 rfl (intCells_at2 hx)) (by decide) ?_
      refine xk_eql rfl rfl (by decide) ?_
      refine XK.nilN ?_
      refine XK.if_ rfl (fun hc => ?_) (fun hc => ?_)
      ·
        refine XK.seq ?_

        refine XK.region ?_
        refine xk_assign rfl (by decide) ?_
        refine XK.nilN ?_
        refine XK.ret ?_
        refine XK.norm ?_
        have hr : rput c (dk : Int) = (6, c) := by rw [hnd] at hk; simp only [rput, ha, hrx, if_neg hk, if_pos hc]; simp
        refine XK.give 1 1 rfl rfl ?_
        dsimp only [List.set]
        refine XK.give 0 0 rfl rfl ?_
        dsimp only [List.set]
        refine XK.ret1 rfl rfl fun w1 st => ?_
        rw [hr]
        exact ⟨rfl, st.turns hF (by simp) (i := 0) rfl⟩
      ·
        refine XK.skip ?_
        refine XK.norm ?_
        refine XK.seq ?_

        refine XK.region ?_
        refine xk_move rfl (by decide) ?_
        refine xk_nilC rfl (by decide) ?_
        refine xk_field (off := 1) (by kernel_rfl) rfl (by decide) ?_
        refine xk_ld rfl ?_
        refine xk_move rfl (by decide) ?_
        refine xk_at (dk) (dk) (el := 3) (sz := 1) (by kernel_rfl) (by kernel_rfl) rfl rfl (by omega) (by omega) (by omega) (by decide) ?_
        refine xk_load (by kernel_rfl) rfl (Rd.blk 0 rfl (intCells_at2 hx)) (by decide) ?_
        refine xk_sub rfl rfl rfl (by decide) ?_
        refine xk_at (dk) (dk) (el := 3) (sz := 1) (by kernel_rfl) (by kernel_rfl) rfl rfl (by omega) (by omega) (by omega) (by decide) ?_
        refine xk_store 0 rfl (by kernel_rfl) rfl rfl rfl (by rw [intCells_len2]; omega) ?_
        dsimp only [List.set]
        rw [intCells_set2]
        refine XK.nilN ?_
        refine XK.seq ?_

        refine XK.region ?_
        refine xk_assign rfl (by decide) ?_
        refine XK.nilN ?_
        refine XK.ret ?_
        refine XK.norm ?_
        have hr : rput c (dk : Int) = (0, ⟨c.n.set dk (IntKind.i64.wrap (x - 1)), c.a⟩) := by rw [hnd] at hk; simp only [rput, ha, hrx, if_neg hk, if_neg hc, Int.toNat_natCast]; simp
        refine XK.give 1 1 rfl rfl ?_
        dsimp only [List.set]
        refine XK.give 0 0 rfl rfl ?_
        dsimp only [List.set]
        refine XK.ret1 rfl rfl fun w1 st => ?_
        rw [hr]
        exact ⟨rfl, st.turns hF (by simp) (i := 0) rfl⟩

theorem rsus_m (gc gn nd : Nat) (v : Value) (c : Rn)  (w : World) (F : Nat → Prop) (hp : (RnH gc gn v nd c).sat F w) (hF : ∀ b, F b → b < w.heap.size) (hnd : nd = c.n.length) :
    Calls Tryz.prog 75 #[.pointer (some ⟨gc, 0, none⟩)] w (fun y w' => y = .returned (.int .i64 (rsus c).1) ∧ ∃ F', (RnH gc gn v nd (rsus c).2).sat F' w' ∧ Turns w w' F F') := by
  refine XK.enterM (p := RnH gc gn v nd c) (F := F) (vs := [.pointer (some ⟨gc, 0, none⟩)]) Tryz.func75 rfl Tryz.ntmps75 (by simp) hp hF ?_
  unfold RnH
  refine XK.take 0 0 rfl rfl ?_
  dsimp only [List.set]
  refine XK.take 1 1 rfl rfl ?_
  dsimp only [List.set]
  refine XK.seq ?_

  refine XK.region ?_
  refine xk_assign rfl (by decide) ?_
  refine XK.nilN ?_
  refine XK.seq ?_
  refine XK.seq ?_

  refine XK.region ?_
  refine xk_move rfl (by decide) ?_
  refine xk_nilC rfl (by decide) ?_
  refine xk_field (off := 2) (by kernel_rfl) rfl (by decide) ?_
  refine xk_ld rfl ?_
  refine XK.nilN ?_
  refine XK.cond rfl (fun ha => ?_) (fun ha => ?_)
  ·
    refine XK.seq ?_

    refine XK.region ?_
    refine xk_assign rfl (by decide) ?_
    refine XK.nilN ?_
    refine XK.ret ?_
    refine XK.norm ?_
    have hr : rsus c = (6, c) := by simp_all [rsus]
    refine XK.give 1 1 rfl rfl ?_
    dsimp only [List.set]
    refine XK.give 0 0 rfl rfl ?_
    dsimp only [List.set]
    refine XK.ret1 rfl rfl fun w1 st => ?_
    rw [hr]
    exact ⟨rfl, st.turns hF (by simp) (i := 0) rfl⟩
  ·
    refine XK.skip ?_
    refine XK.norm ?_
    refine XK.seq ?_

    refine XK.region ?_
    refine xk_move rfl (by decide) ?_
    refine xk_nilC rfl (by decide) ?_
    refine xk_field (off := 2) (by kernel_rfl) rfl (by decide) ?_
    refine xk_st rfl rfl ?_; dsimp only [List.set]
    refine XK.nilN ?_
    refine XK.seq ?_

    refine XK.region ?_
    refine xk_assign rfl (by decide) ?_
    refine XK.nilN ?_
    refine XK.ret ?_
    refine XK.norm ?_
    have hr : rsus c = (0, ⟨c.n, true⟩) := by simp_all [rsus]
    refine XK.give 1 1 rfl rfl ?_
    dsimp only [List.set]
    refine XK.give 0 0 rfl rfl ?_
    dsimp only [List.set]
    refine XK.ret1 rfl rfl fun w1 st => ?_
    rw [hr]
    exact ⟨rfl, st.turns hF (by simp) (i := 0) rfl⟩

theorem rres_m (gc gn nd : Nat) (v : Value) (c : Rn)  (w : World) (F : Nat → Prop) (hp : (RnH gc gn v nd c).sat F w) (hF : ∀ b, F b → b < w.heap.size) (hnd : nd = c.n.length) :
    Calls Tryz.prog 76 #[.pointer (some ⟨gc, 0, none⟩)] w (fun y w' => y = .returned (.int .i64 (rres c).1) ∧ ∃ F', (RnH gc gn v nd (rres c).2).sat F' w' ∧ Turns w w' F F') := by
  refine XK.enterM (p := RnH gc gn v nd c) (F := F) (vs := [.pointer (some ⟨gc, 0, none⟩)]) Tryz.func76 rfl Tryz.ntmps76 (by simp) hp hF ?_
  unfold RnH
  refine XK.take 0 0 rfl rfl ?_
  dsimp only [List.set]
  refine XK.take 1 1 rfl rfl ?_
  dsimp only [List.set]
  refine XK.seq ?_

  refine XK.region ?_
  refine xk_assign rfl (by decide) ?_
  refine XK.nilN ?_
  refine XK.seq ?_
  refine XK.seq ?_

  refine XK.region ?_
  refine xk_move rfl (by decide) ?_
  refine xk_nilC rfl (by decide) ?_
  refine xk_field (off := 2) (by kernel_rfl) rfl (by decide) ?_
  refine xk_ld rfl ?_
  refine xk_not rfl (by decide) ?_
  refine XK.nilN ?_
  refine XK.cond rfl (fun ha => ?_) (fun ha => ?_)
  ·
    refine XK.seq ?_

    refine XK.region ?_
    refine xk_assign rfl (by decide) ?_
    refine XK.nilN ?_
    refine XK.ret ?_
    refine XK.norm ?_
    have hr : rres c = (6, c) := by simp_all [rres]
    refine XK.give 1 1 rfl rfl ?_
    dsimp only [List.set]
    refine XK.give 0 0 rfl rfl ?_
    dsimp only [List.set]
    refine XK.ret1 rfl rfl fun w1 st => ?_
    rw [hr]
    exact ⟨rfl, st.turns hF (by simp) (i := 0) rfl⟩
  ·
    refine XK.skip ?_
    refine XK.norm ?_
    refine XK.seq ?_

    refine XK.region ?_
    refine xk_move rfl (by decide) ?_
    refine xk_nilC rfl (by decide) ?_
    refine xk_field (off := 2) (by kernel_rfl) rfl (by decide) ?_
    refine xk_st rfl rfl ?_; dsimp only [List.set]
    refine XK.nilN ?_
    refine XK.seq ?_

    refine XK.region ?_
    refine xk_assign rfl (by decide) ?_
    refine XK.nilN ?_
    refine XK.ret ?_
    refine XK.norm ?_
    have hr : rres c = (0, ⟨c.n, false⟩) := by simp_all [rres]
    refine XK.give 1 1 rfl rfl ?_
    dsimp only [List.set]
    refine XK.give 0 0 rfl rfl ?_
    dsimp only [List.set]
    refine XK.ret1 rfl rfl fun w1 st => ?_
    rw [hr]
    exact ⟨rfl, st.turns hF (by simp) (i := 0) rfl⟩

def NewR (s : Soc) (v : Value) (hs : List HP) (_ : Piece) : Prop := ∃ gc gn V, v = .tuple #[.pointer (some ⟨gc, 0, none⟩), .int .i64 0] ∧ hs = [RnH gc gn V s.devs.length ⟨List.replicate s.devs.length 0, false⟩]
theorem rnew_ok (s : Soc) (A1 A2 A3 A4 : Option Addr) (n1 k1 n2 k2 n3 k3 n4 k4 : Nat) (w : World) (hW : SocW w s A1 n1 A2 n2 A3 n3 A4 n4) (hm : s.made) :
    Calls Tryz.prog 44 #[.agg #[.slice A1 n1 k1, .slice A2 n2 k2, .slice A3 n3 k3, .slice A4 n4 k4]] w (fun y w' => (∃ v hs q, y = .returned v ∧ q.w = w' ∧ NewR s v hs q ∧ New w hs q) ∧ Below w.heap.size w w') := by
  have hn4 := hW.len4
  have hnv := hm.nv
  refine XK.enter (vs := [.agg #[.slice A1 n1 k1, .slice A2 n2 k2, .slice A3 n3 k3, .slice A4 n4 k4]]) Tryz.func44 rfl Tryz.ntmps44 (by simp) ?_
  refine XK.seq ?_

  refine XK.region ?_
  refine xk_box rfl (by decide) fun g1 => ?_
  refine xk_assign rfl (by decide) ?_
  refine xk_assign rfl (by decide) ?_
  refine XK.nilN ?_
  refine XK.seq ?_

  refine XK.region ?_
  refine xk_ldN 4 rfl ?_
  refine xk_callR (f := 72) (fi := []) (ca := []) (by kernel_rfl) rfl rfl (by decide) (fun w1 st => refChk_any s A1 A2 A3 A4 n1 k1 n2 k2 n3 k3 n4 k4 w1 (hW.le (st.started (by simp))) hm) ?_
  refine xk_assign rfl (by decide) ?_
  refine XK.nilN ?_
  refine XK.seq ?_
  refine XK.seq ?_

  refine XK.region ?_
  refine xk_move rfl (by decide) ?_
  refine xk_neq rfl rfl (by decide) ?_
  refine XK.nilN ?_
  refine XK.if_ rfl (fun h => absurd rfl h) (fun h => ?_)

  ·
    refine XK.skip ?_
    refine XK.norm ?_
    refine XK.seq ?_

    refine XK.draw 6 (by kernel_rfl) (by kernel_rfl) ?_
    refine XA.dA 0 rfl rfl rfl (does_ldN 4 rfl) ?_
    refine XA.dA 2 rfl rfl rfl (does_field (off := 3) (by kernel_rfl) rfl) ?_
    refine XA.dA 3 rfl rfl rfl (does_ld rfl) ?_
    refine XA.dA 4 rfl rfl rfl (does_len (el := 94) (by kernel_rfl) rfl) ?_
    refine XA.either 1 5 rfl rfl (by kernel_rfl) ?_ ?_
    · skip
      refine xk_call [] (f := 73) (fi := []) (ca := []) (by kernel_rfl) rfl rfl (by decide) (by simp) (GrOk (needsG s)) (fun w1 st => refNeeds_any s A1 A2 A3 A4 n1 k1 n2 k2 n3 k3 n4 k4 w1 (hW.le (st.started (by simp)))) ?_
      rintro _ w1 q1 ⟨Ag, cg, rfl, _⟩ hf _ hF1
      have hF1 := hF1 (by simp)
      clear hf
      refine XA.bk ?_
      refine XA.next 5 rfl (by kernel_rfl) ?_
      refine xk_makeT 8 (n := n4) (el := 3) (z := .int .i64 0) (by kernel_rfl) (by kernel_rfl) rfl rfl rfl (by omega) (by omega) (by decide) fun gn => ?_
      refine XA.bk ?_
      refine XA.next 6 rfl (by kernel_rfl) ?_
      refine xk_buildS (zs := [.slice none 0 0, .slice none 0 0, .bool false]) (L := [(0, 1), (1, 1), (2, 1)]) (zeroB_of (by kernel_rfl)) (by kernel_rfl) rfl (by simp [fillL, setN, Value.cells]; rfl) (by decide) ?_
      refine XA.bt ?_
      refine XA.next 7 rfl (by kernel_rfl) ?_
      refine xk_box rfl (by decide) fun g3 => ?_
      refine XA.bt ?_
      refine XA.next 8 rfl (by kernel_rfl) ?_
      refine xk_assign rfl (by decide) ?_
      refine XA.bt ?_
      refine XA.next 9 rfl (by kernel_rfl) ?_
      refine xk_assign rfl (by decide) ?_
      refine XA.bt ?_
      refine XA.done (by kernel_rfl) ?_
      refine XK.norm ?_
      refine XK.ret ?_
      refine XK.norm ?_
      rw [show List.replicate n4 (Value.int .i64 0) = intCells (List.replicate s.devs.length 0) by rw [hn4]; simp [intCells]]
      refine XK.pair ?_
      refine XK.still [q1] [] [0] (by simp) rfl (by decide) (by decide) fun q _ hLe hfr => ?_
      exact XK.ret2 rfl rfl rfl fun w1 st => ⟨⟨_, _, ⟨w1, q.Z⟩, rfl, rfl, ⟨g3, gn, _, rfl, by rw [hn4]; rfl⟩, st.newR (by simp) (by simp) (hfr (by simp) (fun p hp => by simp at hp; subst hp; exact hF1))⟩, st.below (by simp)⟩
    · skip
      refine xk_makeT 8 (n := n4) (el := 3) (z := .int .i64 0) (by kernel_rfl) (by kernel_rfl) rfl rfl rfl (by omega) (by omega) (by decide) fun gn => ?_
      refine XA.bk ?_
      refine XA.next 1 rfl (by kernel_rfl) ?_
      refine xk_call [] (f := 73) (fi := []) (ca := []) (by kernel_rfl) rfl rfl (by decide) (by simp) (GrOk (needsG s)) (fun w1 st => refNeeds_any s A1 A2 A3 A4 n1 k1 n2 k2 n3 k3 n4 k4 w1 (hW.le (st.started (by simp)))) ?_
      rintro _ w1 q1 ⟨Ag, cg, rfl, _⟩ hf _ hF1
      have hF1 := hF1 (by simp)
      clear hf
      refine XA.bk ?_
      refine XA.next 6 rfl (by kernel_rfl) ?_
      refine xk_buildS (zs := [.slice none 0 0, .slice none 0 0, .bool false]) (L := [(0, 1), (1, 1), (2, 1)]) (zeroB_of (by kernel_rfl)) (by kernel_rfl) rfl (by simp [fillL, setN, Value.cells]; rfl) (by decide) ?_
      refine XA.bt ?_
      refine XA.next 7 rfl (by kernel_rfl) ?_
      refine xk_box rfl (by decide) fun g3 => ?_
      refine XA.bt ?_
      refine XA.next 8 rfl (by kernel_rfl) ?_
      refine xk_assign rfl (by decide) ?_
      refine XA.bt ?_
      refine XA.next 9 rfl (by kernel_rfl) ?_
      refine xk_assign rfl (by decide) ?_
      refine XA.bt ?_
      refine XA.done (by kernel_rfl) ?_
      refine XK.norm ?_
      refine XK.ret ?_
      refine XK.norm ?_
      rw [show List.replicate n4 (Value.int .i64 0) = intCells (List.replicate s.devs.length 0) by rw [hn4]; simp [intCells]]
      refine XK.pair ?_
      refine XK.still [q1] [] [0] (by simp) rfl (by decide) (by decide) fun q _ hLe hfr => ?_
      exact XK.ret2 rfl rfl rfl fun w1 st => ⟨⟨_, _, ⟨w1, q.Z⟩, rfl, rfl, ⟨g3, gn, _, rfl, by rw [hn4]; rfl⟩, st.newR (by simp) (by simp) (hfr (by simp) (fun p hp => by simp at hp; subst hp; exact hF1))⟩, st.below (by simp)⟩

end Go.Proofs.YtbgibbbggajgaaaGreat
/- The reference's effect of a call. -/
namespace Go.Proofs.YtbgibbbggajgaaaGreat
set_option linter.all false
open Go.RowKit
def rEff (devs : List Dev) (c : Rn) (h : List Int) (ck dev reg : Int) : Int × Rn × List Int :=
  if ck = 103 then ((rget c dev).1, (rget c dev).2, if (rget c dev).1 = 0 then h.set dev.toNat (IntKind.i64.wrap (rAt h dev + 1)) else h)
  else if ck = 115 then ((rsus c).1, (rsus c).2, h)
  else if ck = 109 then ((rres c).1, (rres c).2, h)
  else if ck = 112 then (if ¬ (0 ≤ dev ∧ dev < devs.length) then (4, c, h) else if rAt h dev = 0 then (6, c, h) else ((rput c dev).1, (rput c dev).2, if (rput c dev).1 = 0 then h.set dev.toNat (IntKind.i64.wrap (rAt h dev - 1)) else h))
  else if ck = 114 ∨ ck = 119 then (if ¬ (0 ≤ dev ∧ dev < devs.length) ∨ reg < 0 ∨ (regsN devs dev.toNat : Int) ≤ reg then (4, c, h) else if rAt h dev = 0 ∨ c.a = true then (6, c, h) else (0, c, h))
  else (0, c, h)
theorem rget_known {c : Rn} {dev : Int} (h : (rget c dev).1 = 0) : 0 ≤ dev ∧ dev < c.n.length := by
  unfold rget at h
  by_cases h1 : c.a = true
  · rw [if_pos h1] at h; cases h
  · rw [if_neg h1] at h
    by_cases h2 : dev < 0 ∨ (c.n.length : Int) ≤ dev
    · rw [if_pos h2] at h; cases h
    · omega
def RefH (gc gn gt : Nat) (v : Value) (nd : Nat) (c : Rn) (h : List Int) : HP := HP.many [HP.blk gt 3 (intCells h), RnH gc gn v nd c]
theorem RnH.roc {gc gn nd : Nat} {v : Value} {c : Rn} {w : World} (h : ∃ F, (RnH gc gn v nd c).sat F w) : ROc w gc 2 (.bool c.a) := by
  obtain ⟨F, G, h1, _⟩ := h
  have hb : Blk w gc _ _ := (h1 0 _ rfl).2
  exact ⟨hb.lt, by rw [hb.cell]; rfl⟩

set_option maxHeartbeats 1000000 in
theorem reff_m (gc gn gt n1 k1 n2 k2 n3 k3 nd kd : Nat) (A1 A2 A3 Ad : Option Addr) (v : Value) (devs : List Dev) (c : Rn) (h : List Int) (ck dev reg cv : Int) (w : World) (F : Nat → Prop) (hp : (RefH gc gn gt v nd c h).sat F w) (hF : ∀ b, F b → b < w.heap.size)
    (hdev : RsR (slq ⟨w, fun b => b < w.heap.size ∧ ¬ F b⟩) (DevR (slq ⟨w, fun b => b < w.heap.size ∧ ¬ F b⟩)) 94 6 Ad nd devs) (hnd : nd = devs.length) (hnc : nd = c.n.length) (hnh : nd = h.length) (hnd6 : nd ≤ 6) :
    Calls Tryz.prog 45 #[.agg #[.slice A1 n1 k1, .slice A2 n2 k2, .slice A3 n3 k3, .slice Ad nd kd], .pointer (some ⟨gc, 0, none⟩), .slice (some ⟨gt, 0, none⟩) nd nd, .agg #[.int .u8 ck, .int .i64 dev, .int .i64 reg, .int .u32 cv]] w (fun y w' => y = .returned (.int .i64 (rEff devs c h ck dev reg).1) ∧ ∃ F', (RefH gc gn gt v nd (rEff devs c h ck dev reg).2.1 (rEff devs c h ck dev reg).2.2).sat F' w' ∧ Turns w w' F F') := by
  refine XK.enterM (p := RefH gc gn gt v nd c h) (F := F) (vs := [.agg #[.slice A1 n1 k1, .slice A2 n2 k2, .slice A3 n3 k3, .slice Ad nd kd], .pointer (some ⟨gc, 0, none⟩), .slice (some ⟨gt, 0, none⟩) nd nd, .agg #[.int .u8 ck, .int .i64 dev, .int .i64 reg, .int .u32 cv]]) Tryz.func45 rfl Tryz.ntmps45 (by simp) hp hF ?_
  unfold RefH
  refine XK.take 0 0 rfl rfl ?_
  dsimp only [List.set]
  refine XK.take 1 1 rfl rfl ?_
  dsimp only [List.set]
  refine XK.seq ?_

  refine XK.region ?_
  refine xk_box rfl (by decide) fun g1 => ?_
  refine xk_box rfl (by decide) fun g2 => ?_
  refine xk_assign rfl (by decide) ?_
  refine XK.nilN ?_
  refine XK.cutB 9 (0 ≤ dev ∧ dev < (nd : Int)) ?_ ?_
  · skip

    refine XK.region ?_
    refine xk_field (off := 1) (by kernel_rfl) rfl (by decide) ?_
    refine xk_ld rfl ?_
    refine xk_geq rfl rfl (by decide) ?_
    refine xk_move rfl (by decide) ?_
    refine xk_split (t := 14) rfl (fun hg => ?_) (fun hg => ?_)
    ·
      refine xk_guardT rfl rfl ?_; refine xk_field (off := 1) (by kernel_rfl) rfl (by decide) ?_
      refine xk_guardT rfl rfl ?_; refine xk_ld rfl ?_
      refine xk_guardT rfl rfl ?_; refine xk_field (off := 3) (by kernel_rfl) rfl (by decide) ?_
      refine xk_guardT rfl rfl ?_; refine xk_ld rfl ?_
      refine xk_guardT rfl rfl ?_; refine xk_len (el := 94) (by kernel_rfl) rfl (by decide) ?_
      refine xk_guardT rfl rfl ?_; refine xk_lss rfl rfl (by decide) ?_
      (first | refine xk_pickT rfl rfl (by decide) ?_ | refine xk_pickF rfl rfl (by decide) ?_)
      refine xk_assign rfl (by decide) ?_
      refine XK.nilN ?_
      exact XK.meetB (by repeat (first | exact trivial | refine ⟨rfl, ?_⟩)) (by first | (refine get_iff rfl ?_; omega) | (refine get_false rfl ?_; omega))
    ·
      refine xk_guardF rfl rfl rfl (by decide) ?_
      refine xk_guardF rfl rfl rfl (by decide) ?_
      refine xk_guardF rfl rfl rfl (by decide) ?_
      refine xk_guardF rfl rfl rfl (by decide) ?_
      refine xk_guardF rfl rfl rfl (by decide) ?_
      refine xk_guardF rfl rfl rfl (by decide) ?_
      (first | refine xk_pickT rfl rfl (by decide) ?_ | refine xk_pickF rfl rfl (by decide) ?_)
      refine xk_assign rfl (by decide) ?_
      refine XK.nilN ?_
      exact XK.meetB (by repeat (first | exact trivial | refine ⟨rfl, ?_⟩)) (by first | (refine get_iff rfl ?_; omega) | (refine get_false rfl ?_; omega))
  refine XK.seq ?_

  refine XK.region ?_
  refine xk_assign rfl (by decide) ?_
  refine XK.nilN ?_
  refine XK.seq ?_
  refine XK.seq ?_

  refine XK.region ?_
  refine xk_field (off := 0) (by kernel_rfl) rfl (by decide) ?_
  refine xk_ld rfl ?_
  refine XK.nilN ?_
  refine XK.block ?_
  refine XK.seq ?_

  refine XK.region ?_
  refine xk_eql rfl rfl (by decide) ?_
  refine xk_assign rfl (by decide) ?_
  refine XK.nilN ?_
  refine XK.if_ rfl (fun h103 => ?_) (fun h103 => ?_)
  ·
    refine XK.seq ?_

    refine XK.region ?_
    refine xk_move rfl (by decide) ?_
    refine xk_field (off := 1) (by kernel_rfl) rfl (by decide) ?_
    refine xk_ld rfl ?_
    refine xk_callM (f := 74) (fi := []) (ca := []) 2 (RnH gc gn v nd (rget c dev).2) (by kernel_rfl) rfl rfl rfl ⟨by decide, rfl⟩ (fun w1 F1 st hp1 hF1 => rget_m gc gn nd v c dev w1 F1 hp1 hF1 hnc) ?_
    dsimp only [List.set]
    refine xk_assign rfl (by decide) ?_
    refine XK.nilN ?_
    refine XK.seq ?_

    refine XK.region ?_
    refine xk_move rfl (by decide) ?_
    refine xk_eql rfl rfl (by decide) ?_
    refine XK.nilN ?_
    refine XK.if_ rfl (fun hg0 => ?_) (fun hg0 => ?_)
    ·
      have hkn := rget_known hg0
      rw [← hnc] at hkn
      obtain ⟨dk, rfl⟩ : ∃ dk : Nat, dev = (dk : Int) := ⟨dev.toNat, by omega⟩
      have hdk : dk < nd := by omega
      obtain ⟨hv0, hv⟩ : ∃ x, h[dk]? = some x := ⟨_, List.getElem?_eq_getElem (by omega)⟩
      have hva : rAt h dk = hv0 := by unfold rAt; rw [show ((dk : Int)).toNat = dk by omega, hv]; rfl

      refine XK.region ?_
      refine xk_move rfl (by decide) ?_
      refine xk_field (off := 1) (by kernel_rfl) rfl (by decide) ?_
      refine xk_ld rfl ?_
      refine xk_at (dk) (dk) (el := 3) (sz := 1) (by kernel_rfl) (by kernel_rfl) rfl rfl (by omega) (by omega) (by omega) (by decide) ?_
      refine xk_load (by kernel_rfl) rfl (Rd.blk 3 rfl (intCells_at2 hv)) (by decide) ?_
      refine xk_add rfl rfl rfl (by decide) ?_
      refine xk_at (dk) (dk) (el := 3) (sz := 1) (by kernel_rfl) (by kernel_rfl) rfl rfl (by omega) (by omega) (by omega) (by decide) ?_
      refine xk_store 3 rfl (by kernel_rfl) rfl rfl rfl (by rw [intCells_len2]; omega) ?_
      dsimp only [List.set]
      rw [intCells_set2]
      refine XK.nilN ?_
      refine XK.seq ?_

      refine XK.region ?_
      refine xk_move rfl (by decide) ?_
      refine xk_assign rfl (by decide) ?_
      refine XK.nilN ?_
      refine XK.ret ?_
      refine XK.norm ?_
      have hr : rEff devs c h ck dk reg = ((rget c dk).1, (rget c dk).2, h.set dk (IntKind.i64.wrap (hv0 + 1))) := by unfold rEff; simp_all
      refine XK.weak [2, 3, 4] rfl (by decide) (fun _ hp => hp) ?_
      refine XK.give 1 1 rfl rfl ?_
      dsimp only [List.set]
      refine XK.give 0 0 rfl rfl ?_
      dsimp only [List.set]
      refine XK.ret1 rfl rfl fun w1 st => ?_
      rw [hr]
      exact ⟨rfl, st.turns hF (by simp) (i := 0) rfl⟩
    ·
      refine XK.skip ?_
      refine XK.norm ?_
      refine XK.seq ?_

      refine XK.region ?_
      refine xk_move rfl (by decide) ?_
      refine xk_assign rfl (by decide) ?_
      refine XK.nilN ?_
      refine XK.ret ?_
      refine XK.norm ?_
      have hr : rEff devs c h ck dev reg = ((rget c dev).1, (rget c dev).2, h) := by unfold rEff; simp_all
      refine XK.weak [2, 3, 4] rfl (by decide) (fun _ hp => hp) ?_
      refine XK.give 1 1 rfl rfl ?_
      dsimp only [List.set]
      refine XK.give 0 0 rfl rfl ?_
      dsimp only [List.set]
      refine XK.ret1 rfl rfl fun w1 st => ?_
      rw [hr]
      exact ⟨rfl, st.turns hF (by simp) (i := 0) rfl⟩
  ·
    refine XK.seq ?_

    refine XK.region ?_
    refine xk_eql rfl rfl (by decide) ?_
    refine xk_assign rfl (by decide) ?_
    refine XK.nilN ?_
    refine XK.if_ rfl (fun h115 => ?_) (fun h115 => ?_)
    ·

      refine XK.region ?_
      refine xk_move rfl (by decide) ?_
      refine xk_callM (f := 75) (fi := []) (ca := []) 2 (RnH gc gn v nd (rsus c).2) (by kernel_rfl) rfl rfl rfl ⟨by decide, rfl⟩ (fun w1 F1 st hp1 hF1 => rsus_m gc gn nd v c w1 F1 hp1 hF1 hnc) ?_
      dsimp only [List.set]
      refine xk_assign rfl (by decide) ?_
      refine XK.nilN ?_
      refine XK.seq ?_

      refine XK.region ?_
      refine xk_move rfl (by decide) ?_
      refine xk_assign rfl (by decide) ?_
      refine XK.nilN ?_
      refine XK.ret ?_
      refine XK.norm ?_
      have hr : rEff devs c h ck dev reg = ((rsus c).1, (rsus c).2, h) := by unfold rEff; simp_all
      refine XK.weak [2, 3, 4] rfl (by decide) (fun _ hp => hp) ?_
      refine XK.give 1 1 rfl rfl ?_
      dsimp only [List.set]
      refine XK.give 0 0 rfl rfl ?_
      dsimp only [List.set]
      refine XK.ret1 rfl rfl fun w1 st => ?_
      rw [hr]
      exact ⟨rfl, st.turns hF (by simp) (i := 0) rfl⟩
    ·
      refine XK.seq ?_

      refine XK.region ?_
      refine xk_eql rfl rfl (by decide) ?_
      refine xk_assign rfl (by decide) ?_
      refine XK.nilN ?_
      refine XK.if_ rfl (fun h109 => ?_) (fun h109 => ?_)
      ·

        refine XK.region ?_
        refine xk_move rfl (by decide) ?_
        refine xk_callM (f := 76) (fi := []) (ca := []) 2 (RnH gc gn v nd (rres c).2) (by kernel_rfl) rfl rfl rfl ⟨by decide, rfl⟩ (fun w1 F1 st hp1 hF1 => rres_m gc gn nd v c w1 F1 hp1 hF1 hnc) ?_
        dsimp only [List.set]
        refine xk_assign rfl (by decide) ?_
        refine XK.nilN ?_
        refine XK.seq ?_

        refine XK.region ?_
        refine xk_move rfl (by decide) ?_
        refine xk_assign rfl (by decide) ?_
        refine XK.nilN ?_
        refine XK.ret ?_
        refine XK.norm ?_
        have hr : rEff devs c h ck dev reg = ((rres c).1, (rres c).2, h) := by unfold rEff; simp_all
        refine XK.weak [2, 3, 4] rfl (by decide) (fun _ hp => hp) ?_
        refine XK.give 1 1 rfl rfl ?_
        dsimp only [List.set]
        refine XK.give 0 0 rfl rfl ?_
        dsimp only [List.set]
        refine XK.ret1 rfl rfl fun w1 st => ?_
        rw [hr]
        exact ⟨rfl, st.turns hF (by simp) (i := 0) rfl⟩
      ·
        refine XK.seq ?_

        refine XK.region ?_
        refine xk_eql rfl rfl (by decide) ?_
        refine xk_assign rfl (by decide) ?_
        refine XK.nilN ?_
        refine XK.if_ rfl (fun h112 => ?_) (fun h112 => ?_)
        ·
          refine XK.seq ?_
          refine XK.seq ?_

          refine XK.region ?_
          refine xk_move rfl (by decide) ?_
          refine xk_notD rfl (by decide) ?_
          refine XK.nilN ?_
          refine XK.if_ rfl (fun hth => ?_) (fun hth => ?_)
          ·
            refine XK.seq ?_

            refine XK.region ?_
            refine xk_assign rfl (by decide) ?_
            refine XK.nilN ?_
            refine XK.ret ?_
            refine XK.norm ?_
            have hr : rEff devs c h ck dev reg = (4, c, h) := by unfold rEff; simp_all
            refine XK.weak [2, 3, 4] rfl (by decide) (fun _ hp => hp) ?_
            refine XK.give 1 1 rfl rfl ?_
            dsimp only [List.set]
            refine XK.give 0 0 rfl rfl ?_
            dsimp only [List.set]
            refine XK.ret1 rfl rfl fun w1 st => ?_
            rw [hr]
            exact ⟨rfl, st.turns hF (by simp) (i := 0) rfl⟩
          ·
            refine XK.skip ?_
            refine XK.norm ?_
            refine XK.seq ?_
            refine XK.seq ?_
            have hkn : 0 ≤ dev ∧ dev < (nd : Int) := Classical.not_not.1 hth
            obtain ⟨dk, rfl⟩ : ∃ dk : Nat, dev = (dk : Int) := ⟨dev.toNat, by omega⟩
            have hdk : dk < nd := by omega
            obtain ⟨hv0, hv⟩ : ∃ x, h[dk]? = some x := ⟨_, List.getElem?_eq_getElem (by omega)⟩
            have hva : rAt h dk = hv0 := by unfold rAt; rw [show ((dk : Int)).toNat = dk by omega, hv]; rfl

            refine XK.region ?_
            refine xk_move rfl (by decide) ?_
            refine xk_field (off := 1) (by kernel_rfl) rfl (by decide) ?_
            refine xk_ld rfl ?_
            refine xk_at (dk) (dk) (el := 3) (sz := 1) (by kernel_rfl) (by kernel_rfl) rfl rfl (by omega) (by omega) (by omega) (by decide) ?_
            refine xk_load (by kernel_rfl) rfl (Rd.blk 3 rfl (intCells_at2 hv)) (by decide) ?_
            refine xk_eql rfl rfl (by decide) ?_
            refine XK.nilN ?_
            refine XK.if_ rfl (fun hz => ?_) (fun hz => ?_)
            ·
              refine XK.seq ?_

              refine XK.region ?_
              refine xk_assign rfl (by decide) ?_
              refine XK.nilN ?_
              refine XK.ret ?_
              refine XK.norm ?_
              have hr : rEff devs c h ck dk reg = (6, c, h) := by unfold rEff; simp_all
              refine XK.weak [2, 3, 4] rfl (by decide) (fun _ hp => hp) ?_
              refine XK.give 1 1 rfl rfl ?_
              dsimp only [List.set]
              refine XK.give 0 0 rfl rfl ?_
              dsimp only [List.set]
              refine XK.ret1 rfl rfl fun w1 st => ?_
              rw [hr]
              exact ⟨rfl, st.turns hF (by simp) (i := 0) rfl⟩
            ·
              refine XK.skip ?_
              refine XK.norm ?_
              refine XK.seq ?_

              refine XK.region ?_
              refine xk_move rfl (by decide) ?_
              refine xk_field (off := 1) (by kernel_rfl) rfl (by decide) ?_
              refine xk_ld rfl ?_
              refine xk_callM (f := 77) (fi := []) (ca := []) 2 (RnH gc gn v nd (rput c dk).2) (by kernel_rfl) rfl rfl rfl ⟨by decide, rfl⟩ (fun w1 F1 st hp1 hF1 => rput_m gc gn nd v c dk w1 F1 hp1 hF1 hnc) ?_
              dsimp only [List.set]
              refine xk_assign rfl (by decide) ?_
              refine XK.nilN ?_
              refine XK.seq ?_

              refine XK.region ?_
              refine xk_move rfl (by decide) ?_
              refine xk_eql rfl rfl (by decide) ?_
              refine XK.nilN ?_
              refine XK.if_ rfl (fun hp0 => ?_) (fun hp0 => ?_)
              ·

                refine XK.region ?_
                refine xk_move rfl (by decide) ?_
                refine xk_field (off := 1) (by kernel_rfl) rfl (by decide) ?_
                refine xk_ld rfl ?_
                refine xk_at (dk) (dk) (el := 3) (sz := 1) (by kernel_rfl) (by kernel_rfl) rfl rfl (by omega) (by omega) (by omega) (by decide) ?_
                refine xk_load (by kernel_rfl) rfl (Rd.blk 3 rfl (intCells_at2 hv)) (by decide) ?_
                refine xk_sub rfl rfl rfl (by decide) ?_
                refine xk_at (dk) (dk) (el := 3) (sz := 1) (by kernel_rfl) (by kernel_rfl) rfl rfl (by omega) (by omega) (by omega) (by decide) ?_
                refine xk_store 3 rfl (by kernel_rfl) rfl rfl rfl (by rw [intCells_len2]; omega) ?_
                dsimp only [List.set]
                rw [intCells_set2]
                refine XK.nilN ?_
                refine XK.seq ?_

                refine XK.region ?_
                refine xk_move rfl (by decide) ?_
                refine xk_assign rfl (by decide) ?_
                refine XK.nilN ?_
                refine XK.ret ?_
                refine XK.norm ?_
                have hr : rEff devs c h ck dk reg = ((rput c dk).1, (rput c dk).2, h.set dk (IntKind.i64.wrap (hv0 - 1))) := by unfold rEff; simp_all
                refine XK.weak [2, 3, 4] rfl (by decide) (fun _ hp => hp) ?_
                refine XK.give 1 1 rfl rfl ?_
                dsimp only [List.set]
                refine XK.give 0 0 rfl rfl ?_
                dsimp only [List.set]
                refine XK.ret1 rfl rfl fun w1 st => ?_
                rw [hr]
                exact ⟨rfl, st.turns hF (by simp) (i := 0) rfl⟩
              ·
                refine XK.skip ?_
                refine XK.norm ?_
                refine XK.seq ?_

                refine XK.region ?_
                refine xk_move rfl (by decide) ?_
                refine xk_assign rfl (by decide) ?_
                refine XK.nilN ?_
                refine XK.ret ?_
                refine XK.norm ?_
                have hr : rEff devs c h ck dk reg = ((rput c dk).1, (rput c dk).2, h) := by unfold rEff; simp_all
                refine XK.weak [2, 3, 4] rfl (by decide) (fun _ hp => hp) ?_
                refine XK.give 1 1 rfl rfl ?_
                dsimp only [List.set]
                refine XK.give 0 0 rfl rfl ?_
                dsimp only [List.set]
                refine XK.ret1 rfl rfl fun w1 st => ?_
                rw [hr]
                exact ⟨rfl, st.turns hF (by simp) (i := 0) rfl⟩
        ·
          refine XK.cutB 70 (ck = 114 ∨ ck = 119) ?_ ?_
          · skip
            refine XK.seq ?_

            refine XK.region ?_
            refine xk_eql rfl rfl (by decide) ?_
            refine xk_assign rfl (by decide) ?_
            refine XK.nilN ?_
            refine XK.if_ rfl (fun hrw => ?_) (fun hrw => ?_)
            ·
              refine XK.skip ?_
              refine XK.norm ?_
              exact XK.meetB (by repeat (first | exact trivial | refine ⟨rfl, ?_⟩)) (by first | (refine get_iff rfl ?_; omega) | (refine get_false rfl ?_; omega))
            ·

              refine XK.region ?_
              refine xk_eql rfl rfl (by decide) ?_
              refine xk_assign rfl (by decide) ?_
              refine XK.nilN ?_
              exact XK.meetB (by repeat (first | exact trivial | refine ⟨rfl, ?_⟩)) (by first | (refine get_iff rfl ?_; omega) | (refine get_false rfl ?_; omega))
          refine XK.if_ rfl (fun hrw => ?_) (fun hrw => ?_)
          ·
            refine XK.seq ?_
            refine XK.cutB 92 (¬ (0 ≤ dev ∧ dev < (nd : Int)) ∨ reg < 0 ∨ (regsN devs dev.toNat : Int) ≤ reg) ?_ ?_
            · skip

              refine XK.draw 18 (by kernel_rfl) (by kernel_rfl) ?_
              refine XA.dA 0 rfl rfl rfl (does_move rfl) ?_
              refine XA.dA 1 rfl rfl rfl (does_notD rfl) ?_
              refine XA.dA 2 rfl rfl rfl (does_move rfl) ?_
              refine XA.split (t := 75) rfl (fun hg75 => ?_) (fun hg75 => ?_)
              ·
                refine XA.dF 3 rfl rfl rfl rfl ?_
                refine XA.dF 4 rfl rfl rfl rfl ?_
                refine XA.dF 5 rfl rfl rfl rfl ?_
                refine XA.dA 6 rfl rfl rfl (by first | exact does_pickT rfl rfl | exact does_pickF rfl rfl) ?_
                refine XA.dA 7 rfl rfl rfl (does_move rfl) ?_
                refine XA.dF 8 rfl rfl rfl rfl ?_
                refine XA.dF 9 rfl rfl rfl rfl ?_
                refine XA.dF 10 rfl rfl rfl rfl ?_
                refine XA.dF 11 rfl rfl rfl rfl ?_
                refine XA.dF 12 rfl rfl rfl rfl ?_
                refine XA.dF 13 rfl rfl rfl rfl ?_
                refine XA.dF 14 rfl rfl rfl rfl ?_
                refine XA.dF 15 rfl rfl rfl rfl ?_
                refine XA.dF 16 rfl rfl rfl rfl ?_
                refine XA.dF 17 rfl rfl rfl rfl ?_
                refine XA.next 18 rfl (by kernel_rfl) ?_
                refine xk_guardF rfl rfl rfl (by decide) ?_
                refine XA.bt ?_
                refine XA.next 19 rfl (by kernel_rfl) ?_
                (first | refine xk_pickT rfl rfl (by decide) ?_ | refine xk_pickF rfl rfl (by decide) ?_)
                refine XA.bt ?_
                refine XA.done (by kernel_rfl) ?_
                refine XK.norm ?_
                exact XK.meetB (by repeat (first | exact trivial | refine ⟨rfl, ?_⟩)) (by first | (refine get_true rfl ?_; omega) | (refine get_iff rfl ?_; rw [Int.toNat_natCast, hrn]; omega))
              ·
                have hkn : 0 ≤ dev ∧ dev < (nd : Int) := Classical.not_not.1 hg75
                obtain ⟨dk, rfl⟩ : ∃ dk : Nat, dev = (dk : Int) := ⟨dev.toNat, by omega⟩
                have hdk : dk < nd := by omega
                obtain ⟨y, hy⟩ : ∃ y, devs[dk]? = some y := ⟨_, List.getElem?_eq_getElem (by omega)⟩
                have hrn : regsN devs dk = y.regs.length := by rw [regsN, hy]; rfl
                obtain ⟨bV, oV, rV, rfl, hzV, _, hR, hcV⟩ := hdev.rowQ hy
                obtain ⟨Ar, nr, kr, Ann, nn, knn, rfl, hnr, _⟩ := hR
                refine XA.dT 3 rfl rfl rfl (does_field (off := 2) (by kernel_rfl) rfl) ?_
                refine XA.dT 4 rfl rfl rfl (does_ld rfl) ?_
                refine XA.dT 5 rfl rfl rfl (does_lss rfl rfl) ?_
                refine XA.dA 6 rfl rfl rfl (by first | exact does_pickT rfl rfl | exact does_pickF rfl rfl) ?_
                refine XA.dA 7 rfl rfl rfl (does_move rfl) ?_
                refine XA.split (t := 80) rfl (fun hg80 => ?_) (fun hg80 => ?_)
                ·
                  refine XA.dF 8 rfl rfl rfl rfl ?_
                  refine XA.dF 9 rfl rfl rfl rfl ?_
                  refine XA.dF 10 rfl rfl rfl rfl ?_
                  refine XA.dF 11 rfl rfl rfl rfl ?_
                  refine XA.dF 12 rfl rfl rfl rfl ?_
                  refine XA.dF 13 rfl rfl rfl rfl ?_
                  refine XA.dF 14 rfl rfl rfl rfl ?_
                  refine XA.dF 15 rfl rfl rfl rfl ?_
                  refine XA.dF 16 rfl rfl rfl rfl ?_
                  refine XA.dF 17 rfl rfl rfl rfl ?_
                  refine XA.next 18 rfl (by kernel_rfl) ?_
                  refine xk_guardF rfl rfl rfl (by decide) ?_
                  refine XA.bt ?_
                  refine XA.next 19 rfl (by kernel_rfl) ?_
                  (first | refine xk_pickT rfl rfl (by decide) ?_ | refine xk_pickF rfl rfl (by decide) ?_)
                  refine XA.bt ?_
                  refine XA.done (by kernel_rfl) ?_
                  refine XK.norm ?_
                  exact XK.meetB (by repeat (first | exact trivial | refine ⟨rfl, ?_⟩)) (by first | (refine get_true rfl ?_; omega) | (refine get_iff rfl ?_; rw [Int.toNat_natCast, hrn]; omega))
                ·
                  refine XA.dT 8 rfl rfl rfl (does_field (off := 2) (by kernel_rfl) rfl) ?_
                  refine XA.dT 9 rfl rfl rfl (does_ld rfl) ?_
                  refine XA.dT 10 rfl rfl rfl (does_field (off := 3) (by kernel_rfl) rfl) ?_
                  refine XA.dT 11 rfl rfl rfl (does_ld rfl) ?_
                  refine XA.dT 12 rfl rfl rfl (does_field (off := 1) (by kernel_rfl) rfl) ?_
                  refine XA.dT 13 rfl rfl rfl (does_ld rfl) ?_
                  refine XA.dT 14 rfl rfl rfl (does_at (dk) (oV + dk * 6) (el := 94) (sz := 6) (by kernel_rfl) (by kernel_rfl) rfl rfl (by omega) (by omega) (by omega)) ?_
                  refine XA.dT 15 rfl rfl rfl (does_field (off := 4) (by kernel_rfl) rfl) ?_
                  refine XA.dT 16 rfl rfl rfl (does_load (by kernel_rfl) rfl (Rd.ro (p := ⟨w, fun b => b < w.heap.size ∧ ¬ F b⟩) (by simp) hzV (hcV 4 _ rfl))) ?_
                  refine XA.dT 17 rfl rfl rfl (does_len (el := 96) (by kernel_rfl) rfl) ?_
                  refine XA.next 18 rfl (by kernel_rfl) ?_
                  refine xk_guardT rfl rfl ?_; refine xk_geq rfl rfl (by decide) ?_
                  refine XA.bt ?_
                  refine XA.next 19 rfl (by kernel_rfl) ?_
                  (first | refine xk_pickT rfl rfl (by decide) ?_ | refine xk_pickF rfl rfl (by decide) ?_)
                  refine XA.bt ?_
                  refine XA.done (by kernel_rfl) ?_
                  refine XK.norm ?_
                  exact XK.meetB (by repeat (first | exact trivial | refine ⟨rfl, ?_⟩)) (by first | (refine get_true rfl ?_; omega) | (refine get_iff rfl ?_; rw [Int.toNat_natCast, hrn]; omega))
            refine XK.if_ rfl (fun h92 => ?_) (fun h92 => ?_)
            ·
              refine XK.seq ?_

              refine XK.region ?_
              refine xk_assign rfl (by decide) ?_
              refine XK.nilN ?_
              refine XK.ret ?_
              refine XK.norm ?_
              have hr : rEff devs c h ck dev reg = (4, c, h) := by unfold rEff; simp_all
              refine XK.weak [2, 3, 4] rfl (by decide) (fun _ hp => hp) ?_
              refine XK.give 1 1 rfl rfl ?_
              dsimp only [List.set]
              refine XK.give 0 0 rfl rfl ?_
              dsimp only [List.set]
              refine XK.ret1 rfl rfl fun w1 st => ?_
              rw [hr]
              exact ⟨rfl, st.turns hF (by simp) (i := 0) rfl⟩
            ·
              refine XK.skip ?_
              refine XK.norm ?_
              have hkn : 0 ≤ dev ∧ dev < (nd : Int) := by omega
              obtain ⟨dk, rfl⟩ : ∃ dk : Nat, dev = (dk : Int) := ⟨dev.toNat, by omega⟩
              have hdk : dk < nd := by omega
              obtain ⟨hv0, hv⟩ : ∃ x, h[dk]? = some x := ⟨_, List.getElem?_eq_getElem (by omega)⟩
              have hva : rAt h dk = hv0 := by unfold rAt; rw [show ((dk : Int)).toNat = dk by omega, hv]; rfl
              refine XK.cutB 104 (rAt h dk = 0 ∨ c.a = true) ?_ ?_
              · skip

                refine XK.region ?_
                refine xk_move rfl (by decide) ?_
                refine xk_field (off := 1) (by kernel_rfl) rfl (by decide) ?_
                refine xk_ld rfl ?_
                refine xk_at (dk) (dk) (el := 3) (sz := 1) (by kernel_rfl) (by kernel_rfl) rfl rfl (by omega) (by omega) (by omega) (by decide) ?_
                refine xk_load (by kernel_rfl) rfl (Rd.blk 3 rfl (intCells_at2 hv)) (by decide) ?_
                refine xk_eql rfl rfl (by decide) ?_
                refine xk_move rfl (by decide) ?_
                refine xk_split (t := 99) rfl (fun hg99 => ?_) (fun hg99 => ?_)
                ·
                  refine xk_guardF rfl rfl rfl (by decide) ?_
                  refine xk_guardF rfl rfl rfl (by decide) ?_
                  refine xk_guardF rfl rfl rfl (by decide) ?_
                  refine xk_guardF rfl rfl rfl (by decide) ?_
                  (first | refine xk_pickT rfl rfl (by decide) ?_ | refine xk_pickF rfl rfl (by decide) ?_)
                  refine XK.nilN ?_
                  exact XK.meetB (by repeat (first | exact trivial | refine ⟨rfl, ?_⟩)) (get_true rfl (.inl (by rw [hva]; exact hg99)))
                ·
                  refine xk_guardT rfl rfl ?_; refine xk_move rfl (by decide) ?_
                  refine xk_guardT rfl rfl ?_; refine xk_nilC rfl (by decide) ?_
                  refine xk_guardT rfl rfl ?_; refine xk_field (off := 2) (by kernel_rfl) rfl (by decide) ?_
                  refine xk_guardT rfl rfl ?_; refine xk_load (by kernel_rfl) rfl (fun w1 st => (RnH.roc (st.sat (i := 2) rfl)).2) (by decide) ?_
                  (first | refine xk_pickT rfl rfl (by decide) ?_ | refine xk_pickF rfl rfl (by decide) ?_)
                  refine XK.nilN ?_
                  exact XK.meetB (by repeat (first | exact trivial | refine ⟨rfl, ?_⟩)) (get_bool rfl ⟨fun hb => .inr hb, fun hb => hb.resolve_left (by rw [hva]; exact hg99)⟩)
              refine XK.if_ rfl (fun h104 => ?_) (fun h104 => ?_)
              ·
                refine XK.seq ?_

                refine XK.region ?_
                refine xk_assign rfl (by decide) ?_
                refine XK.nilN ?_
                refine XK.ret ?_
                refine XK.norm ?_
                have hr : rEff devs c h ck dk reg = (6, c, h) := by unfold rEff; rw [← hnd, if_neg h103, if_neg h115, if_neg h109, if_neg h112, if_pos hrw, if_neg h92, if_pos h104]
                refine XK.weak [2, 3, 4] rfl (by decide) (fun _ hp => hp) ?_
                refine XK.give 1 1 rfl rfl ?_
                dsimp only [List.set]
                refine XK.give 0 0 rfl rfl ?_
                dsimp only [List.set]
                refine XK.ret1 rfl rfl fun w1 st => ?_
                rw [hr]
                exact ⟨rfl, st.turns hF (by simp) (i := 0) rfl⟩
              ·
                refine XK.skip ?_
                refine XK.norm ?_
                refine XK.seq ?_

                refine XK.region ?_
                refine xk_move rfl (by decide) ?_
                refine xk_assign rfl (by decide) ?_
                refine XK.nilN ?_
                refine XK.ret ?_
                refine XK.norm ?_
                have hr : rEff devs c h ck dk reg = (0, c, h) := by unfold rEff; rw [← hnd, if_neg h103, if_neg h115, if_neg h109, if_neg h112, if_pos hrw, if_neg h92, if_neg h104]
                refine XK.weak [2, 3, 4] rfl (by decide) (fun _ hp => hp) ?_
                refine XK.give 1 1 rfl rfl ?_
                dsimp only [List.set]
                refine XK.give 0 0 rfl rfl ?_
                dsimp only [List.set]
                refine XK.ret1 rfl rfl fun w1 st => ?_
                rw [hr]
                exact ⟨rfl, st.turns hF (by simp) (i := 0) rfl⟩
          ·
            refine XK.skip ?_
            refine XK.norm ?_
            refine XK.seq ?_

            refine XK.region ?_
            refine xk_move rfl (by decide) ?_
            refine xk_assign rfl (by decide) ?_
            refine XK.nilN ?_
            refine XK.ret ?_
            refine XK.norm ?_
            have hr : rEff devs c h ck dev reg = (0, c, h) := by unfold rEff; simp_all
            refine XK.weak [2, 3, 4] rfl (by decide) (fun _ hp => hp) ?_
            refine XK.give 1 1 rfl rfl ?_
            dsimp only [List.set]
            refine XK.give 0 0 rfl rfl ?_
            dsimp only [List.set]
            refine XK.ret1 rfl rfl fun w1 st => ?_
            rw [hr]
            exact ⟨rfl, st.turns hF (by simp) (i := 0) rfl⟩

end Go.Proofs.YtbgibbbggajgaaaGreat
/- Look and Safe, walked: what is counted is a fold over the events; the first dead one. -/
namespace Go.Proofs.YtbgibbbggajgaaaGreat
set_option linter.all false
open Go.RowKit Go.Shelf
attribute [local go_sem] Oper.semAt_some
structure Rp where
  begun : Int
  ended : Int
  errs : Int
  deliv : Int
  dead : Int
  sent : Int
  repl : Int
def Rp.cells (r : Rp) : Array Value := #[.int .i64 r.begun, .int .i64 r.ended, .int .i64 r.errs, .int .i64 r.deliv, .int .i64 r.dead, .int .i64 r.sent, .int .i64 r.repl]
def Rp.zero : Rp := ⟨0, 0, 0, 0, 0, 0, 0⟩
def Rp.step (r : Rp) (e : Ev) : Rp :=
  if e.kind = 98 then { r with begun := r.begun + 1 }
  else if e.kind = 101 then (if e.err = 0 then { r with ended := r.ended + 1 } else { r with ended := r.ended + 1, errs := r.errs + 1 })
  else if e.kind = 100 then (if isDead e then { r with deliv := r.deliv + 1, dead := r.dead + 1 } else { r with deliv := r.deliv + 1 })
  else if e.kind = 115 then { r with sent := r.sent + 1 }
  else if e.kind = 114 then { r with repl := r.repl + 1 }
  else r
def lookF (l : List Ev) : Rp := l.foldl Rp.step Rp.zero
theorem lookF_snoc (l : List Ev) (e : Ev) : lookF (l ++ [e]) = (lookF l).step e := by simp [lookF]
def Rp.le (r : Rp) (n : Int) : Prop := (0 ≤ r.begun ∧ r.begun ≤ n) ∧ (0 ≤ r.ended ∧ r.ended ≤ n) ∧ (0 ≤ r.errs ∧ r.errs ≤ n) ∧ (0 ≤ r.deliv ∧ r.deliv ≤ n) ∧ (0 ≤ r.dead ∧ r.dead ≤ n) ∧ (0 ≤ r.sent ∧ r.sent ≤ n) ∧ (0 ≤ r.repl ∧ r.repl ≤ n)
theorem Rp.step_le {r : Rp} {n : Int} (h : r.le n) (e : Ev) : (r.step e).le (n + 1) := by
  unfold Rp.le at *
  unfold Rp.step
  repeat' split
  all_goals ((try dsimp only); omega)
theorem lookF_le (l : List Ev) : (lookF l).le l.length := by
  have : ∀ (l : List Ev) (r : Rp) (n : Nat), r.le n → (l.foldl Rp.step r).le ((l.length + n : Nat)) := by
    intro l
    induction l with
    | nil => intro r n h; simpa using h
    | cons e l ih =>
      intro r n h
      have := ih (r.step e) (n + 1) (by simpa using Rp.step_le h e)
      rw [List.foldl_cons, List.length_cons, show l.length + 1 + n = l.length + (n + 1) by omega]
      exact this
  simpa [lookF] using this l Rp.zero 0 (by unfold Rp.le Rp.zero; simp)

/-- the events at some places -/
def evsAt (evs : List Ev) (pre : List (Fin evs.length)) : List Ev := pre.map fun x => evs[x]
theorem evsAt_snoc (evs : List Ev) (pre : List (Fin evs.length)) (x : Fin evs.length) : evsAt evs (pre ++ [x]) = evsAt evs pre ++ [evs[x]] := by simp [evsAt]
theorem evsAt_all (evs : List Ev) : evsAt evs (List.finRange evs.length) = evs := by
  unfold evsAt
  apply List.ext_getElem
  · simp
  · intro i h1 h2
    simp

theorem Evs.places {w : World} {A : Option Addr} {evs : List Ev} (h : Evs w w.heap.size A evs) :
    ∃ b off, (0 < evs.length → A = some ⟨b, off, none⟩) ∧ (0 < evs.length → b < w.heap.size) ∧ ∀ x : Fin evs.length, EvAt w b (off + x.1 * 14) evs[x] := by
  rcases Nat.eq_zero_or_pos evs.length with h0 | hp
  · exact ⟨0, 0, fun h => by omega, fun h => by omega, fun x => absurd x.2 (by omega)⟩
  · obtain ⟨b, off, hA, hb, _⟩ := h.at_ (List.getElem?_eq_getElem hp)
    refine ⟨b, off, fun _ => hA, fun _ => hb, fun x => ?_⟩
    obtain ⟨b', off', hA', hb', hc'⟩ := h.at_ (List.getElem?_eq_getElem x.2)
    rw [hA] at hA'
    injection hA' with hA'
    injection hA' with e1 e2
    subst e1; subst e2
    exact hc'

set_option maxRecDepth 100000 in
set_option maxHeartbeats 2000000 in
theorem look_any (A : Option Addr) (n c : Nat) (evs : List Ev) (w : World) (h : Evs w w.heap.size A evs) (hn : n = evs.length) (hb : n ≤ 9223372036854775807) :
    Calls Tryz.prog 8 #[.slice A n c] w fun x w' => x = .returned (.agg (lookF evs).cells) ∧ Below w.heap.size w w' := by
  subst hn
  obtain ⟨b, off, hA, hbB, hcells⟩ := h.places
  refine (callsIn_wide (n := 9)).1 ?_
  refine callsIn_of_wp_marks Tryz.func8 rfl trivial ?_ rfl
  simp only [Tryz.ntmps8, List.size_toArray, List.length_cons, List.length_nil, Nat.reduceAdd, Nat.reduceSub, Array.replicate_succ, Array.replicate_zero, List.push_toArray, List.append_toArray, List.nil_append, List.cons_append]
  gi_wp2_with (refine ⟨trivial, ?_⟩; gi_at_call 38; refine (callsIn_wide.2 (each_any _ _ _ _)).mono ?_; rintro e w' ⟨rfl, rfl⟩)
  have bZ := Blk.new w 46 Rp.zero.cells
  have bR := Blk.new (w.alloc (.cells Rp.zero.cells 46)) 46 Rp.zero.cells
  have bN := Blk.new ((w.alloc (.cells Rp.zero.cells 46)).alloc (.cells Rp.zero.cells 46)) 23 #[.slice A evs.length c]
  rw [World.size_alloc] at bR
  rw [World.size_alloc, World.size_alloc] at bN
  obtain ⟨W0, hW0⟩ : ∃ W0, ((w.alloc (.cells Rp.zero.cells 46)).alloc (.cells Rp.zero.cells 46)).alloc (.cells #[.slice A evs.length c] 23) = W0 := ⟨_, rfl⟩
  have hB0 : Below w.heap.size w W0 := by rw [← hW0]; exact (((Below.refl _ w).alloc (Nat.le_refl _) _).alloc (by simp) _).alloc (by simp; omega) _
  have hsz : W0.heap.size = w.heap.size + 1 + 1 + 1 := by rw [← hW0]; simp
  have cZ : Blk W0 w.heap.size 46 Rp.zero.cells := by rw [← hW0]; exact (bZ.alloc _).alloc _
  have cR : Blk W0 (w.heap.size + 1) 46 Rp.zero.cells := by rw [← hW0]; exact bR.alloc _
  have cN : Blk W0 (w.heap.size + 1 + 1) 23 #[.slice A evs.length c] := by rw [← hW0]; exact bN
  unfold Rp.zero Rp.cells at hW0
  dsimp only at hW0
  rw [hW0]
  clear bZ bR bN hW0
  refine range_law (gf := 64) (lb := #[.pointer (some ⟨w.heap.size + 1 + 1, 0, none⟩)]) rfl (enters_of Tryz.func64 (by kernel_rfl) rfl)
    (each_stops (w.heap.size + 1 + 1) w.heap.size (w.heap.size + 1 + 1) (W0.heap.size + 1 + 1) (W0.heap.size + 1 + 1) b off evs.length c A hA hb W0 (Nat.le_refl _) cN) Keeps.trans (keeps_b (by omega) (by omega)) (Below.refl _ _) (fun _ => rfl)
    (fun pre W => (Blk W (w.heap.size + 1) 46 (lookF (evsAt evs pre)).cells ∧ Blk W w.heap.size 46 Rp.zero.cells) ∧ Below w.heap.size w W)
    (fun _ _ _ => False)
    (OwnFrom.and (OwnFrom.and ((blk_own _ _ _).from _) ((blk_own _ _ _).from _)) (ownFrom_below (Nat.le_refl _) (by omega)))
    (fun _ _ _ _ _ hs _ _ => hs)
    ⟨⟨cR, cZ⟩, hB0⟩
    (fun x => { tmps := #[.slice A evs.length c, undef, .pointer (some ⟨w.heap.size, 0, none⟩), .pointer (some ⟨w.heap.size + 1, 0, none⟩), undef, .pointer (some ⟨b, off + x.1 * 14, none⟩), .slice A evs.length c, .func (.func 64) #[] #[.pointer (some ⟨w.heap.size + 1 + 1, 0, none⟩)], .int .i64 (x.1 : Int), .pointer (some ⟨b, off + x.1 * 14, none⟩), undef, undef, undef, undef, undef, undef, undef, undef, undef, undef, undef, undef, undef, undef, undef, undef, undef, undef, undef, undef, undef, undef, undef, undef, undef, undef, undef, undef, undef, undef, undef, undef, undef, undef, undef, undef, undef, undef, undef, undef, undef, undef, undef, undef, undef, undef, undef, undef, undef, undef, undef], defers := [] }) ?assign ?body ?done ?stop
  case assign =>
    intro l x W K hK
    unfold evEnc
    gi_wp2
    exact hK
  case body =>
    rintro l pre x W ⟨⟨hR, hZ⟩, hB⟩ hlen
    have hev := hcells x
    obtain ⟨e, he⟩ : ∃ e, evs[x] = e := ⟨_, rfl⟩
    have hbx : b < w.heap.size := hbB (by have := x.2; omega)
    have hle := lookF_le (evsAt evs pre)
    have hll : (evsAt evs pre).length = pre.length := by simp [evsAt]
    rw [hll] at hle
    rw [he] at hev
    have hc : ∀ f u, e.cells[f]? = some u → W.cell? ⟨b, off + x.1 * 14 + f, none⟩ = some u := fun f u hu => (hB.cell (p := ⟨b, off + x.1 * 14 + f, none⟩) hbx).trans (hev f u hu)
    have h0 := hc 0 _ rfl
    have h6 := hc 6 _ rfl
    simp only [Nat.add_zero] at h0
    have hst : lookF (evsAt evs (pre ++ [x])) = (lookF (evsAt evs pre)).step e := by rw [evsAt_snoc, lookF_snoc, he]
    generalize lookF (evsAt evs pre) = r at hR hle hst
    obtain ⟨r0, r1, r2, r3, r4, r5, r6⟩ := r
    unfold Rp.le at hle
    dsimp only at hle
    obtain ⟨l0, l1, l2, l3, l4, l5, l6⟩ := hle
    obtain ⟨l00, l01⟩ := l0
    obtain ⟨l10, l11⟩ := l1
    obtain ⟨l20, l21⟩ := l2
    obtain ⟨l30, l31⟩ := l3
    obtain ⟨l40, l41⟩ := l4
    obtain ⟨l50, l51⟩ := l5
    obtain ⟨l60, l61⟩ := l6
    have hl63 : (pre.length : Int) < 9223372036854775807 := by omega
    simp only [Rp.cells] at hR
    have c0 : W.cell? ⟨w.heap.size + 1, 0, none⟩ = some (.int .i64 r0) := hR.cell 0
    have c1 : W.cell? ⟨w.heap.size + 1, 1, none⟩ = some (.int .i64 r1) := hR.cell 1
    have c3 : W.cell? ⟨w.heap.size + 1, 3, none⟩ = some (.int .i64 r3) := hR.cell 3
    have c5 : W.cell? ⟨w.heap.size + 1, 5, none⟩ = some (.int .i64 r5) := hR.cell 5
    have c6 : W.cell? ⟨w.heap.size + 1, 6, none⟩ = some (.int .i64 r6) := hR.cell 6
    have hf := fun i => hR.frozen i
    have hK1 : ∀ i u, KeepsFrom W0.heap.size W (W.setCell ⟨w.heap.size + 1, i, none⟩ u) := fun i u => (KeepsOthers.setCell _ _ _).from _
    have hK2 : ∀ i u, Keeps w.heap.size (w.heap.size + 1 + 1) (W0.heap.size + 1 + 1) W (W.setCell ⟨w.heap.size + 1, i, none⟩ u) := fun i u => (Keeps.refl _ _ _ W).setCell (by simp) (by simp) u
    have hB2 : ∀ i u, Below w.heap.size w (W.setCell ⟨w.heap.size + 1, i, none⟩ u) := fun i u => hB.setCell (p := ⟨w.heap.size + 1, i, none⟩) (by simp) u
    have hZ2 : ∀ i u, Blk (W.setCell ⟨w.heap.size + 1, i, none⟩ u) w.heap.size 46 Rp.zero.cells := fun i u => hZ.far (by simp) u
    have HST := Lib.hid hst
    clear hst
    by_cases k98 : e.kind = 98
    · have q : (e.kind == 98) = true := by simpa using k98
      have HK := Lib.hid k98
      clear k98
      gi_wp2
      refine ⟨hK1 _ _, hK2 _ _, ⟨?_, hZ2 _ _⟩, hB2 _ _⟩
      rw [HST.out]
      refine (hR.set_ 0 _).conv ?_
      simp [Rp.step, Rp.cells, HK.out]
    have q98 : (e.kind == 98) = false := by simpa using k98
    have K98 := Lib.hid k98
    clear k98
    have h6' : ∀ i u, (W.setCell ⟨w.heap.size + 1, i, none⟩ u).cell? ⟨b, off + x.1 * 14 + 6, none⟩ = some (.int .i64 e.err) := fun i u => (World.cell?_setCell_other _ _ _ _ (fun h => by injection h with h; omega)).trans h6
    have c2' : ∀ u, (W.setCell ⟨w.heap.size + 1, 1, none⟩ u).cell? ⟨w.heap.size + 1, 2, none⟩ = some (.int .i64 r2) := fun u => (hR.set_ 1 u).cell 2
    have c4' : ∀ u, (W.setCell ⟨w.heap.size + 1, 3, none⟩ u).cell? ⟨w.heap.size + 1, 4, none⟩ = some (.int .i64 r4) := fun u => (hR.set_ 3 u).cell 4
    have hK1' : ∀ i u j v, KeepsFrom W0.heap.size W ((W.setCell ⟨w.heap.size + 1, i, none⟩ u).setCell ⟨w.heap.size + 1, j, none⟩ v) := fun i u j v => (hK1 i u).trans ((KeepsOthers.setCell _ _ _).from _)
    have hK2' : ∀ i u j v, Keeps w.heap.size (w.heap.size + 1 + 1) (W0.heap.size + 1 + 1) W ((W.setCell ⟨w.heap.size + 1, i, none⟩ u).setCell ⟨w.heap.size + 1, j, none⟩ v) := fun i u j v => (hK2 i u).setCell (by simp) (by simp) v
    have hB2' : ∀ i u j v, Below w.heap.size w ((W.setCell ⟨w.heap.size + 1, i, none⟩ u).setCell ⟨w.heap.size + 1, j, none⟩ v) := fun i u j v => (hB2 i u).setCell (p := ⟨w.heap.size + 1, j, none⟩) (by simp) v
    have hZ2' : ∀ i u j v, Blk ((W.setCell ⟨w.heap.size + 1, i, none⟩ u).setCell ⟨w.heap.size + 1, j, none⟩ v) w.heap.size 46 Rp.zero.cells := fun i u j v => (hZ2 i u).far (by simp) v
    by_cases k101 : e.kind = 101
    · have q : (e.kind == 101) = true := by simpa using k101
      have HK := Lib.hid k101
      clear k101
      by_cases ke : e.err = 0
      · have q2 : (e.err != 0) = false := by simpa using ke
        have KE := Lib.hid ke
        clear ke
        gi_wp2
        refine ⟨hK1 _ _, hK2 _ _, ⟨?_, hZ2 _ _⟩, hB2 _ _⟩
        rw [HST.out]
        refine (hR.set_ 1 _).conv ?_
        simp [Rp.step, Rp.cells, HK.out, KE.out]
      · have q2 : (e.err != 0) = true := by simpa using ke
        have KE := Lib.hid ke
        clear ke
        gi_wp2
        refine ⟨hK1' _ _ _ _, hK2' _ _ _ _, ⟨?_, hZ2' _ _ _ _⟩, hB2' _ _ _ _⟩
        rw [HST.out]
        refine ((hR.set_ 1 _).set_ 2 _).conv ?_
        simp [Rp.step, Rp.cells, HK.out, KE.out]
    have q101 : (e.kind == 101) = false := by simpa using k101
    have K101 := Lib.hid k101
    clear k101
    by_cases k100 : e.kind = 100
    · have q : (e.kind == 100) = true := by simpa using k100
      have HK := Lib.hid k100
      clear k100
      have hev' : ∀ u, EvAt (W.setCell ⟨w.heap.size + 1, 3, none⟩ u) b (off + x.1 * 14) e := fun u f v hv => (World.cell?_setCell_other _ _ _ _ (fun h => by injection h with h; omega)).trans (hc f v hv)
      by_cases kd : isDead e = true
      · gi_wp2_with (refine ⟨trivial, ?_⟩; gi_at_call 39; refine (CallsIn.inRound l (callsIn_wide.2 (dead_any _ _ e _ (hev' _)))).mono ?_; rintro _ w' ⟨rfl, rfl⟩)
        refine ⟨hK1' _ _ _ _, hK2' _ _ _ _, ⟨?_, hZ2' _ _ _ _⟩, hB2' _ _ _ _⟩
        rw [HST.out]
        refine ((hR.set_ 3 _).set_ 4 _).conv ?_
        simp [Rp.step, Rp.cells, HK.out, kd]
      · have kd' : isDead e = false := by simpa using kd
        clear kd
        gi_wp2_with (refine ⟨trivial, ?_⟩; gi_at_call 39; refine (CallsIn.inRound l (callsIn_wide.2 (dead_any _ _ e _ (hev' _)))).mono ?_; rintro _ w' ⟨rfl, rfl⟩)
        refine ⟨hK1 _ _, hK2 _ _, ⟨?_, hZ2 _ _⟩, hB2 _ _⟩
        rw [HST.out]
        refine (hR.set_ 3 _).conv ?_
        simp [Rp.step, Rp.cells, HK.out, kd']
    have q100 : (e.kind == 100) = false := by simpa using k100
    have K100 := Lib.hid k100
    clear k100
    by_cases k115 : e.kind = 115
    · have q : (e.kind == 115) = true := by simpa using k115
      have HK := Lib.hid k115
      clear k115
      gi_wp2
      refine ⟨hK1 _ _, hK2 _ _, ⟨?_, hZ2 _ _⟩, hB2 _ _⟩
      rw [HST.out]
      refine (hR.set_ 5 _).conv ?_
      simp [Rp.step, Rp.cells, HK.out]
    have q115 : (e.kind == 115) = false := by simpa using k115
    have K115 := Lib.hid k115
    clear k115
    by_cases k114 : e.kind = 114
    · have q : (e.kind == 114) = true := by simpa using k114
      have HK := Lib.hid k114
      clear k114
      gi_wp2
      refine ⟨hK1 _ _, hK2 _ _, ⟨?_, hZ2 _ _⟩, hB2 _ _⟩
      rw [HST.out]
      refine (hR.set_ 6 _).conv ?_
      simp [Rp.step, Rp.cells, HK.out]
    · have q114 : (e.kind == 114) = false := by simpa using k114
      have K114 := Lib.hid k114
      clear k114
      gi_wp2
      refine ⟨KeepsFrom.refl _ _, Keeps.refl _ _ _ _, ⟨?_, hZ⟩, hB⟩
      rw [HST.out]
      refine hR.conv ?_
      simp [Rp.step, Rp.cells, K98.out, K101.out, K100.out, K115.out, K114.out]
  case done =>
    rintro D ys W hD rfl ⟨⟨hR, hZ⟩, hB⟩ hK
    rw [evsAt_all] at hR
    obtain ⟨r, hr⟩ : ∃ r, lookF evs = r := ⟨_, rfl⟩
    rw [hr] at hR
    have HR := Lib.hid hr
    clear hr
    obtain ⟨r0, r1, r2, r3, r4, r5, r6⟩ := r
    simp only [Rp.cells] at hR
    have c0 : W.cell? ⟨w.heap.size + 1, 0, none⟩ = some (.int .i64 r0) := hR.cell 0
    have c1 : W.cell? ⟨w.heap.size + 1, 1, none⟩ = some (.int .i64 r1) := hR.cell 1
    have c2 : W.cell? ⟨w.heap.size + 1, 2, none⟩ = some (.int .i64 r2) := hR.cell 2
    have c3 : W.cell? ⟨w.heap.size + 1, 3, none⟩ = some (.int .i64 r3) := hR.cell 3
    have c4 : W.cell? ⟨w.heap.size + 1, 4, none⟩ = some (.int .i64 r4) := hR.cell 4
    have c5 : W.cell? ⟨w.heap.size + 1, 5, none⟩ = some (.int .i64 r5) := hR.cell 5
    have c6 : W.cell? ⟨w.heap.size + 1, 6, none⟩ = some (.int .i64 r6) := hR.cell 6
    have z0 : W.cell? ⟨w.heap.size, 0, none⟩ = some (.int .i64 0) := hZ.cell 0
    have z1 : W.cell? ⟨w.heap.size, 1, none⟩ = some (.int .i64 0) := hZ.cell 1
    have z2 : W.cell? ⟨w.heap.size, 2, none⟩ = some (.int .i64 0) := hZ.cell 2
    have z3 : W.cell? ⟨w.heap.size, 3, none⟩ = some (.int .i64 0) := hZ.cell 3
    have z4 : W.cell? ⟨w.heap.size, 4, none⟩ = some (.int .i64 0) := hZ.cell 4
    have z5 : W.cell? ⟨w.heap.size, 5, none⟩ = some (.int .i64 0) := hZ.cell 5
    have z6 : W.cell? ⟨w.heap.size, 6, none⟩ = some (.int .i64 0) := hZ.cell 6
    have hf := fun i => hZ.frozen i
    gi_wp2
    have hZ7 := ((((((hZ.set_ 0 (.int .i64 r0)).set_ 1 (.int .i64 r1)).set_ 2 (.int .i64 r2)).set_ 3 (.int .i64 r3)).set_ 4 (.int .i64 r4)).set_ 5 (.int .i64 r5)).set_ 6 (.int .i64 r6)
    have hK7 := ((((((KeepsOthers.setCell W ⟨w.heap.size, 0, none⟩ (.int .i64 r0)).trans (KeepsOthers.setCell _ ⟨w.heap.size, 1, none⟩ (.int .i64 r1))).trans (KeepsOthers.setCell _ ⟨w.heap.size, 2, none⟩ (.int .i64 r2))).trans (KeepsOthers.setCell _ ⟨w.heap.size, 3, none⟩ (.int .i64 r3))).trans
      (KeepsOthers.setCell _ ⟨w.heap.size, 4, none⟩ (.int .i64 r4))).trans (KeepsOthers.setCell _ ⟨w.heap.size, 5, none⟩ (.int .i64 r5))).trans (KeepsOthers.setCell _ ⟨w.heap.size, 6, none⟩ (.int .i64 r6))
    have hB7 := ((((((hB.setCell (p := ⟨w.heap.size, 0, none⟩) (Nat.le_refl _) (.int .i64 r0)).setCell (p := ⟨w.heap.size, 1, none⟩) (Nat.le_refl _) (.int .i64 r1)).setCell (p := ⟨w.heap.size, 2, none⟩) (Nat.le_refl _) (.int .i64 r2)).setCell (p := ⟨w.heap.size, 3, none⟩) (Nat.le_refl _) (.int .i64 r3)).setCell
      (p := ⟨w.heap.size, 4, none⟩) (Nat.le_refl _) (.int .i64 r4)).setCell (p := ⟨w.heap.size, 5, none⟩) (Nat.le_refl _) (.int .i64 r5)).setCell (p := ⟨w.heap.size, 6, none⟩) (Nat.le_refl _) (.int .i64 r6)
    have hD7 := hK7.same D _ hK rfl
    refine ⟨by simp, .inl ⟨_, _, rfl, run_takeDeferred hD7, ?_⟩⟩
    have hZ8 : Blk _ w.heap.size 46 _ := (World.putObj_heap_other (o := .deferred none) (by omega : w.heap.size ≠ D)).trans hZ7
    have hB8 := hB7.trans (belowK_b (w := W0) (by omega) _ D _ (.deferred none) hD hD7 rfl rfl)
    have y0 := hZ8.cell 0
    have y1 := hZ8.cell 1
    have y2 := hZ8.cell 2
    have y3 := hZ8.cell 3
    have y4 := hZ8.cell 4
    have y5 := hZ8.cell 5
    have y6 := hZ8.cell 6
    simp [Rp.zero, Rp.cells] at y0 y1 y2 y3 y4 y5 y6
    refine ⟨.agg #[.int .i64 r0, .int .i64 r1, .int .i64 r2, .int .i64 r3, .int .i64 r4, .int .i64 r5, .int .i64 r6], ?_, by rw [HR.out]; rfl, hB8⟩
    simp [results, Tryz.f8, go_sem, y0, y1, y2, y3, y4, y5, y6]
  case stop =>
    rintro D c pre W _ _ h _
    exact h.elim

/-- the place of the first dead one; -1: there is none -/
def safeF (evs : List Ev) : Int := match evs.findIdx? isDead with | some k => (k : Int) | none => -1
theorem safeF_none {evs : List Ev} (h : ∀ e ∈ evs, isDead e = false) : safeF evs = -1 := by
  unfold safeF
  rw [List.findIdx?_eq_none_iff.2 h]
theorem safeF_some {evs : List Ev} {k : Nat} (hk : k < evs.length) (hd : isDead evs[k] = true) (h : ∀ j, (hj : j < k) → isDead evs[j] = false) : safeF evs = k := by
  unfold safeF
  rw [List.findIdx?_eq_some_iff_getElem.2 ⟨hk, hd, fun j hj => by simp [h j hj]⟩]

set_option maxRecDepth 100000 in
set_option maxHeartbeats 2000000 in
theorem safe_any (A : Option Addr) (n c : Nat) (evs : List Ev) (w : World) (h : Evs w w.heap.size A evs) (hn : n = evs.length) (hb : n ≤ 9223372036854775807) :
    Calls Tryz.prog 12 #[.slice A n c] w fun x w' => x = .returned (.int .i64 (safeF evs)) ∧ Below w.heap.size w w' := by
  subst hn
  obtain ⟨b, off, hA, hbB, hcells⟩ := h.places
  refine (callsIn_wide (n := 9)).1 ?_
  refine callsIn_of_wp_marks Tryz.func12 rfl trivial ?_ rfl
  simp only [Tryz.ntmps12, List.size_toArray, List.length_cons, List.length_nil, Nat.reduceAdd, Nat.reduceSub, Array.replicate_succ, Array.replicate_zero, List.push_toArray, List.append_toArray, List.nil_append, List.cons_append]
  gi_wp2_with (refine ⟨trivial, ?_⟩; gi_at_call 38; refine (callsIn_wide.2 (each_any _ _ _ _)).mono ?_; rintro e w' ⟨rfl, rfl⟩)
  have bZ := Blk.new w 3 #[.int .i64 0]
  have bN := Blk.new (w.alloc (.cells #[.int .i64 0] 3)) 23 #[.slice A evs.length c]
  rw [World.size_alloc] at bN
  obtain ⟨W0, hW0⟩ : ∃ W0, (w.alloc (.cells #[.int .i64 0] 3)).alloc (.cells #[.slice A evs.length c] 23) = W0 := ⟨_, rfl⟩
  have hB0 : Below w.heap.size w W0 := by rw [← hW0]; exact ((Below.refl _ w).alloc (Nat.le_refl _) _).alloc (by simp) _
  have hsz : W0.heap.size = w.heap.size + 1 + 1 := by rw [← hW0]; simp
  have cZ : Blk W0 w.heap.size 3 #[.int .i64 0] := by rw [← hW0]; exact bZ.alloc _
  have cN : Blk W0 (w.heap.size + 1) 23 #[.slice A evs.length c] := by rw [← hW0]; exact bN
  rw [hW0]
  clear bZ bN hW0
  refine range_law (gf := 64) (lb := #[.pointer (some ⟨w.heap.size + 1, 0, none⟩)]) rfl (enters_of Tryz.func64 (by kernel_rfl) rfl)
    (each_stops (w.heap.size + 1) w.heap.size (w.heap.size + 1) (W0.heap.size + 1 + 1) (W0.heap.size + 1 + 1) b off evs.length c A hA hb W0 (Nat.le_refl _) cN) Keeps.trans (keeps_b (by omega) (by omega)) (Below.refl _ _) (fun _ => rfl)
    (fun pre W => (Blk W w.heap.size 3 #[.int .i64 0] ∧ ∀ y ∈ pre, isDead evs[y] = false) ∧ Below w.heap.size w W)
    (fun k pre W => (k = .ret ∧ ∃ ini x, pre = ini ++ [x] ∧ (∀ y ∈ ini, isDead evs[y] = false) ∧ isDead evs[x] = true ∧ Blk W w.heap.size 3 #[.int .i64 (x.1 : Int)]) ∧ Below w.heap.size w W)
    (OwnFrom.and (OwnFrom.and ((blk_own _ _ _).from _) (ownFrom_pure _ _)) (ownFrom_below (Nat.le_refl _) (by omega)))
    (fun k => OwnFrom.and (fun s A B row hs hg hr => by
      obtain ⟨h1, ini, x, h2, h3, h4, h5⟩ := hs
      exact ⟨h1, ini, x, h2, h3, h4, (blk_own w.heap.size 3 (fun _ => #[.int .i64 (x.1 : Int)])) () A B row h5 hg (fun r e => (hr r e).2)⟩) (ownFrom_below (Nat.le_refl _) (by omega)))
    ⟨⟨cZ, by simp⟩, hB0⟩
    (fun x => { tmps := #[.slice A evs.length c, undef, .pointer (some ⟨w.heap.size, 0, none⟩), .int .i64 (x.1 : Int), .pointer (some ⟨b, off + x.1 * 14, none⟩), .slice A evs.length c, .func (.func 64) #[] #[.pointer (some ⟨w.heap.size + 1, 0, none⟩)], .int .i64 (x.1 : Int), .pointer (some ⟨b, off + x.1 * 14, none⟩), undef, undef, undef], defers := [] }) ?assign ?body ?done ?stop
  case assign =>
    intro l x W K hK
    unfold evEnc
    gi_wp2
    exact hK
  case body =>
    rintro l pre x W ⟨⟨hZ, hp⟩, hB⟩ hlen
    have hev := hcells x
    have hbx : b < w.heap.size := hbB (by have := x.2; omega)
    have hz := hZ.cell 0
    simp at hz
    have hf := fun i => hZ.frozen i
    have hev' : EvAt W b (off + x.1 * 14) evs[x] := fun f u hu => (hB.cell (p := ⟨b, off + x.1 * 14 + f, none⟩) hbx).trans (hev f u hu)
    obtain ⟨e, he⟩ : ∃ e, evs[x] = e := ⟨_, rfl⟩
    rw [he] at hev'
    by_cases kd : isDead e = true
    · have KD := Lib.hid kd
      gi_wp2_with (refine ⟨trivial, ?_⟩; gi_at_call 39; refine (CallsIn.inRound l (callsIn_wide.2 (dead_any _ _ e _ hev'))).mono ?_; rintro _ w' ⟨rfl, rfl⟩)
      exact ⟨(KeepsOthers.setCell _ _ _).from _, ⟨rfl, pre, x, rfl, hp, by rw [he]; exact KD.out, by simpa using hZ.set_ 0 (.int .i64 (x.1 : Int))⟩, hB.setCell (p := ⟨w.heap.size, 0, none⟩) (Nat.le_refl _) _⟩
    · have kd' : isDead e = false := by simpa using kd
      clear kd
      have KD := Lib.hid kd'
      gi_wp2_with (refine ⟨trivial, ?_⟩; gi_at_call 39; refine (CallsIn.inRound l (callsIn_wide.2 (dead_any _ _ e _ hev'))).mono ?_; rintro _ w' ⟨rfl, rfl⟩)
      refine ⟨KeepsFrom.refl _ _, Keeps.refl _ _ _ _, ⟨hZ, fun y hy => ?_⟩, hB⟩
      rcases List.mem_append.1 hy with hy | hy
      · exact hp y hy
      · simp at hy
        subst hy
        rw [he]
        exact KD.out
  case done =>
    rintro D ys W hD rfl ⟨⟨hZ, hp⟩, hB⟩ hK
    have hz := hZ.cell 0
    simp at hz
    have hf := fun i => hZ.frozen i
    gi_wp2
    have hD7 := (KeepsOthers.setCell W ⟨w.heap.size, 0, none⟩ (.int .i64 (-1))).same D _ hK rfl
    refine ⟨by simp, .inl ⟨_, _, rfl, run_takeDeferred hD7, ?_⟩⟩
    have hZ8 := (hZ.set_ 0 (.int .i64 (-1))).putObj (by omega : w.heap.size ≠ D) (.deferred none)
    have y0 := hZ8.cell 0
    simp at y0
    have hs := safeF_none (evs := evs) (fun e he => by
      obtain ⟨k, hk, rfl⟩ := List.getElem_of_mem he
      exact hp ⟨k, hk⟩ (by simp))
    refine ⟨.int .i64 (-1), ?_, by rw [hs], (hB.setCell (p := ⟨w.heap.size, 0, none⟩) (Nat.le_refl _) _).trans (belowK_b (w := W0) (by omega) _ D _ (.deferred none) hD hD7 rfl rfl)⟩
    simp [results, Tryz.f12, go_sem, y0]
  case stop =>
    rintro D k pre W hD ⟨j', hj, rfl⟩ ⟨⟨rfl, ini, x, hi, hp, hd, hZ⟩, hB⟩ hK
    gi_wp2
    refine ⟨by simp, .inl ⟨_, _, rfl, run_takeDeferred hK, ?_⟩⟩
    have hZ8 := hZ.putObj (by omega : w.heap.size ≠ D) (.deferred none)
    have y0 := hZ8.cell 0
    simp at y0
    rw [ixs_succ (by omega)] at hi
    obtain ⟨rfl, e5⟩ := List.append_inj' hi rfl
    obtain rfl : (⟨j', by omega⟩ : Fin evs.length) = x := by simpa using e5
    have hs := safeF_some (evs := evs) (by omega : j' < evs.length) hd (fun i hi' => hp ⟨i, by omega⟩ (by unfold ixs; rw [List.mem_take_iff_getElem]; exact ⟨i, by simp; omega, by simp⟩))
    refine ⟨.int .i64 (j' : Int), ?_, by rw [hs], hB.trans (belowK_b (w := W0) (by omega) W D _ (.deferred none) hD hK rfl rfl)⟩
    simp [results, Tryz.f12, go_sem, y0]

end Go.Proofs.YtbgibbbggajgaaaGreat
/- calls: the iterator that goes through those events that begin or end a call of a task from 0 to 2; it ranges over each. -/
namespace Go.Proofs.YtbgibbbggajgaaaGreat
set_option linter.all false
open Go.RowKit Go.Shelf
attribute [local go_sem] Oper.semAt_some
/-- is it one of those? -/
def sel (e : Ev) : Bool := (e.kind == 98 || e.kind == 101) && decide (0 ≤ e.task ∧ e.task < 3)
def selAt (evs : List Ev) (x : Fin evs.length) : Bool := sel evs[x]

set_option maxHeartbeats 1000000 in
theorem calls_any (A : Option Addr) (n cap : Nat) (w : World) :
    Calls Tryz.prog 42 #[.slice A n cap] w fun e w' => e = .returned (.func (.func 66) #[] #[.pointer (some ⟨w.heap.size, 0, none⟩)]) ∧ w' = w.alloc (.cells #[.slice A n cap] 23) := by
  go_enter Tryz.func42, Tryz.ntmps42
  go_wp2
  go_ret
  exact ⟨rfl, rfl⟩

set_option maxRecDepth 100000 in
set_option maxHeartbeats 2000000 in
theorem calls1_in (l Bs n₀ B₁ B₂ b off cap : Nat) (A : Option Addr) (evs : List Ev) (hA : 0 < evs.length → A = some ⟨b, off, none⟩) (hb : evs.length ≤ 9223372036854775807) (J Jx : List (Fin evs.length) → World → Prop)
    (W : World) (hbB : 0 < evs.length → b < n₀) (hcells : ∀ x : Fin evs.length, EvAt W b (off + x.1 * 14) evs[x]) (hn₀ : n₀ ≤ W.heap.size)
    (hBs : Blk W Bs 23 #[.slice A evs.length cap]) (hB : B₁ ≤ Bs) (hB2 : B₂ ≤ W.heap.size)
    (hJ : OwnFrom W.heap.size J) (hJx : OwnFrom W.heap.size Jx)
    (hY : ∀ pre x W, selAt evs x = true → J pre W → pre.length < evs.length → YieldAt Fence.wide 9 Tryz.prog l (evEnc b off evs.length x) W fun e W' =>
      (e = .returned (.bool true) ∧ J (pre ++ [x]) W' ∧ Keeps n₀ B₁ B₂ W W') ∨ (e = .returned (.bool false) ∧ Jx (pre ++ [x]) W' ∧ KeepsFrom B₂ W W'))
    (h0 : J [] W) :
    CallsIn Fence.wide 9 Tryz.prog 66 #[.func (.yield l) #[] #[], .pointer (some ⟨Bs, 0, none⟩)] W fun e W' => (∃ v, e = .returned v) ∧
      ((∃ ys, ys = (List.finRange evs.length).filter (selAt evs) ∧ J ys W') ∨ (∃ pre, (∃ k, ∃ hk : k < evs.length, selAt evs ⟨k, hk⟩ = true ∧ pre = (ixs evs.length k).filter (selAt evs) ++ [⟨k, hk⟩]) ∧ Jx pre W')) := by
  refine callsIn_of_wp_marks Tryz.func66 rfl trivial ?_ rfl
  simp only [Tryz.ntmps66, List.size_toArray, List.length_cons, List.length_nil, Nat.reduceAdd, Nat.reduceSub, Array.replicate_succ, Array.replicate_zero, List.push_toArray, List.append_toArray, List.nil_append, List.cons_append]
  have hc0 : ∀ o, (W.alloc o).cell? ⟨Bs, 0, none⟩ = some (.slice A evs.length cap) := fun o => (hBs.alloc o).cell 0
  gi_wp2_with (refine ⟨trivial, ?_⟩; gi_at_call 38; refine (callsIn_wide.2 (each_any _ _ _ _)).mono ?_; rintro e w' ⟨rfl, rfl⟩)
  clear hc0
  have bY := Blk.new W 143 #[.func (.yield l) #[] #[]]
  have bN := Blk.new (W.alloc (.cells #[.func (.yield l) #[] #[]] 143)) 23 #[.slice A evs.length cap]
  rw [World.size_alloc] at bN
  obtain ⟨W0, hW0⟩ : ∃ W0, (W.alloc (.cells #[.func (.yield l) #[] #[]] 143)).alloc (.cells #[.slice A evs.length cap] 23) = W0 := ⟨_, rfl⟩
  have hB0 : Below W.heap.size W W0 := by rw [← hW0]; exact ((Below.refl _ W).alloc (Nat.le_refl _) _).alloc (by simp) _
  have hsz : W0.heap.size = W.heap.size + 1 + 1 := by rw [← hW0]; simp
  have cY : Blk W0 W.heap.size 143 #[.func (.yield l) #[] #[]] := by rw [← hW0]; exact bY.alloc _
  have cN : Blk W0 (W.heap.size + 1) 23 #[.slice A evs.length cap] := by rw [← hW0]; exact bN
  have hJ0 : J [] W0 := by rw [← hW0]; exact hJ.alloc _ (hJ.alloc _ h0)
  have hK0 : Keeps n₀ B₁ B₂ W W0 := Keeps.of_below hn₀ hB0
  have hBsl := hBs.lt
  rw [hW0]
  clear bY bN hW0 h0
  refine range_law (gf := 64) (lb := #[.pointer (some ⟨W.heap.size + 1, 0, none⟩)]) rfl (enters_of Tryz.func64 (by kernel_rfl) rfl)
    (each_stops (W.heap.size + 1) n₀ B₁ (W0.heap.size + 1 + 1) (W0.heap.size + 1 + 1) b off evs.length cap A hA hb W0 (by omega) cN) Keeps.trans (keeps_b (by omega) (by omega)) (Below.refl _ _) (fun _ => rfl)
    (fun pre W' => (J (pre.filter (selAt evs)) W' ∧ Blk W' W.heap.size 143 #[.func (.yield l) #[] #[]]) ∧ Keeps n₀ B₁ B₂ W W')
    (fun c pre W' => c = .ret ∧ ∃ ini x, pre = ini ++ [x] ∧ selAt evs x = true ∧ Jx (ini.filter (selAt evs) ++ [x]) W')
    (OwnFrom.and (OwnFrom.and (fun s X Y row hs hg hr => own_more hJ (by omega : W.heap.size ≤ W0.heap.size) (s.filter (selAt evs)) X Y row hs hg hr) ((blk_own _ _ _).from _)) (keeps_own hn₀ (by omega)))
    (fun c s X Y row hs hg hr => by
      obtain ⟨h1, ini, x, h2, h3, h4⟩ := hs
      exact ⟨h1, ini, x, h2, h3, own_more hJx (by omega : W.heap.size ≤ W0.heap.size) _ X Y row h4 hg hr⟩)
    ⟨⟨hJ0, cY⟩, hK0⟩
    (fun x => { tmps := #[.func (.yield l) #[] #[], .pointer (some ⟨Bs, 0, none⟩), .pointer (some ⟨W.heap.size, 0, none⟩), .int .i64 (x.1 : Int), .pointer (some ⟨b, off + x.1 * 14, none⟩), .slice A evs.length cap, .func (.func 64) #[] #[.pointer (some ⟨W.heap.size + 1, 0, none⟩)], .int .i64 (x.1 : Int), .pointer (some ⟨b, off + x.1 * 14, none⟩), undef, undef, undef, undef, undef, undef, undef, undef, undef, undef, undef, undef, undef, undef, undef, undef, undef, undef, undef, undef, undef, undef, undef, undef, undef, undef, undef, undef, undef, undef, undef], defers := [] }) ?assign ?body ?done ?stop
  case assign =>
    intro l x W K hK
    unfold evEnc
    gi_wp2
    exact hK
  case body =>
    rintro l2 pre x W' ⟨⟨hJ', hYb⟩, hK⟩ hlen
    have hbx : b < n₀ := hbB (by have := x.2; omega)
    have hev := hcells x
    obtain ⟨e, he⟩ : ∃ e, evs[x] = e := ⟨_, rfl⟩
    rw [he] at hev
    have hc : ∀ f u, e.cells[f]? = some u → W'.cell? ⟨b, off + x.1 * 14 + f, none⟩ = some u := fun f u hu => (hK.low.cell (p := ⟨b, off + x.1 * 14 + f, none⟩) hbx).trans (hev f u hu)
    have h0 := hc 0 _ rfl
    have h1 := hc 1 _ rfl
    simp only [Nat.add_zero] at h0
    have hy0 := hYb.cell 0
    simp at hy0
    have no : sel e = false → (pre ++ [x]).filter (selAt evs) = pre.filter (selAt evs) := fun h => by
      rw [List.filter_append]
      simp [selAt, he, h]
    have yes : sel e = true → (pre ++ [x]).filter (selAt evs) = pre.filter (selAt evs) ++ [x] := fun h => by
      rw [List.filter_append]
      simp [selAt, he, h]
    have yes2 : sel e = true → selAt evs x = true := fun h => by rw [selAt, he]; exact h
    have stay : sel e = false → KeepsFrom W0.heap.size W' W' ∧ Keeps n₀ B₁ (W0.heap.size + 1 + 1) W' W' ∧ (J ((pre ++ [x]).filter (selAt evs)) W' ∧ Blk W' W.heap.size 143 #[.func (.yield l) #[] #[]]) ∧ Keeps n₀ B₁ B₂ W W' := fun h =>
      ⟨KeepsFrom.refl _ _, Keeps.refl _ _ _ _, ⟨by rw [no h]; exact hJ', hYb⟩, hK⟩
    have hlen2 : (pre.filter (selAt evs)).length < evs.length := Nat.lt_of_le_of_lt (List.length_filter_le _ _) hlen
    have STAY := Lib.hid stay
    have YES := Lib.hid yes
    have YES2 := Lib.hid yes2
    clear stay yes yes2 no he hev hc
    by_cases hk : e.kind = 98 ∨ e.kind = 101
    · by_cases ht : 0 ≤ e.task ∧ e.task < 3
      · have hs : sel e = true := by rcases hk with hk | hk <;> simp [sel, hk, ht]
        have HS := Lib.hid hs
        clear hs
        obtain ⟨fn, tmps, assign, body, hy, hR⟩ := hY _ x W' (YES2.out HS.out) hJ' hlen2
        unfold evEnc at hy
        obtain ⟨ht0, ht3⟩ := ht
        have g1 : decide (0 ≤ e.task) = true := by simpa using ht0
        have g2 : decide (e.task < 3) = true := by simpa using ht3
        rcases hk with hk | hk
        · have q : (e.kind != 98) = false := by simp [hk]
          clear hk
          gi_wp2
          refine (round_in hR).mono ?_
          rintro e3 W3 (⟨rfl, hJ3, hk3⟩ | ⟨rfl, hJx3, hk3⟩)
          · gi_wp2
            exact ⟨hk3.from (by omega) (by omega), hk3.more (by omega), ⟨by rw [YES.out HS.out]; exact hJ3, hYb.keeps hk3 (by omega)⟩, hK.trans hk3⟩
          · gi_wp2
            exact ⟨⟨hk3.size, fun k o hk1 h1 h2 => hk3.same k o (by omega) h1 h2⟩, rfl, pre, x, rfl, YES2.out HS.out, hJx3⟩
        · have q : (e.kind != 98) = true := by simp [hk]
          have q2 : (e.kind != 101) = false := by simp [hk]
          clear hk
          gi_wp2
          refine (round_in hR).mono ?_
          rintro e3 W3 (⟨rfl, hJ3, hk3⟩ | ⟨rfl, hJx3, hk3⟩)
          · gi_wp2
            exact ⟨hk3.from (by omega) (by omega), hk3.more (by omega), ⟨by rw [YES.out HS.out]; exact hJ3, hYb.keeps hk3 (by omega)⟩, hK.trans hk3⟩
          · gi_wp2
            exact ⟨⟨hk3.size, fun k o hk1 h1 h2 => hk3.same k o (by omega) h1 h2⟩, rfl, pre, x, rfl, YES2.out HS.out, hJx3⟩
      · have hs : sel e = false := by simp only [sel, ht]; simp
        have ST := STAY.out hs
        clear hs
        by_cases ht0 : 0 ≤ e.task
        · have ht3 : decide (e.task < 3) = false := by simp; omega
          have g1 : decide (0 ≤ e.task) = true := by simpa using ht0
          clear ht ht0
          rcases hk with hk | hk
          · have q : (e.kind != 98) = false := by simp [hk]
            clear hk
            gi_wp2
            refine ⟨fun _ h => (by cases h), ?_⟩
            gi_wp2
            exact ST
          · have q : (e.kind != 98) = true := by simp [hk]
            have q2 : (e.kind != 101) = false := by simp [hk]
            clear hk
            gi_wp2
            refine ⟨fun _ h => (by cases h), ?_⟩
            gi_wp2
            exact ST
        · have g1 : decide (0 ≤ e.task) = false := by simpa using ht0
          clear ht ht0
          rcases hk with hk | hk
          · have q : (e.kind != 98) = false := by simp [hk]
            clear hk
            gi_wp2
            refine ⟨fun _ h => (by cases h), ?_⟩
            gi_wp2
            exact ST
          · have q : (e.kind != 98) = true := by simp [hk]
            have q2 : (e.kind != 101) = false := by simp [hk]
            clear hk
            gi_wp2
            refine ⟨fun _ h => (by cases h), ?_⟩
            gi_wp2
            exact ST
    · have hs : sel e = false := by
        simp only [sel]
        rw [Bool.and_eq_false_iff]
        left
        simpa using hk
      have ST := STAY.out hs
      have q : (e.kind != 98) = true := by simp; omega
      have q2 : (e.kind != 101) = true := by simp; omega
      clear hs hk
      gi_wp2
      exact ST
  case done =>
    rintro D ys W' hD rfl ⟨⟨hJ', hYb⟩, hK⟩ hKD
    gi_wp2
    refine ⟨by simp, .inl ⟨_, _, rfl, run_takeDeferred hKD, ?_⟩⟩
    exact ⟨_, results_none rfl _ _ _, ⟨_, rfl⟩, .inl ⟨_, rfl, hJ.putObj _ hJ' (by omega) hKD rfl⟩⟩
  case stop =>
    rintro D k pre W' hD ⟨j', hj, rfl⟩ ⟨rfl, ini, x, hi, hx, hJx'⟩ hKD
    rw [ixs_succ hj] at hi
    obtain ⟨rfl, e5⟩ := List.append_inj' hi rfl
    obtain rfl : (⟨j', hj⟩ : Fin evs.length) = x := by simpa using e5
    gi_wp2
    refine ⟨by simp, .inl ⟨_, _, rfl, run_takeDeferred hKD, ?_⟩⟩
    exact ⟨_, results_none rfl _ _ _, ⟨_, rfl⟩, .inr ⟨_, ⟨j', hj, hx, rfl⟩, hJx.putObj _ hJx' (by omega) hKD rfl⟩⟩

/-- a place at which there is one of those -/
abbrev Sx (evs : List Ev) : Type := { x : Fin evs.length // selAt evs x = true }
/-- the contract of the iterator that calls hands back -/
theorem calls_stops (Bs n₀ B₁ B₂ b off cap : Nat) (A : Option Addr) (evs : List Ev) (hA : 0 < evs.length → A = some ⟨b, off, none⟩) (hb : evs.length ≤ 9223372036854775807)
    (w : World) (hbB : 0 < evs.length → b < n₀) (hcells : ∀ x : Fin evs.length, EvAt w b (off + x.1 * 14) evs[x]) (hn₀ : n₀ ≤ w.heap.size) (hB : B₁ ≤ Bs) (hc : Blk w Bs 23 #[.slice A evs.length cap]) :
    Seq Tryz.prog 66 #[.pointer (some ⟨Bs, 0, none⟩)] (fun x : Sx evs => evEnc b off evs.length x.1) (Keeps n₀ B₁ B₂) B₂ (fun ys => ys.map (·.1) = (List.finRange evs.length).filter (selAt evs))
      (fun pre => ∃ k, ∃ hk : k < evs.length, selAt evs ⟨k, hk⟩ = true ∧ pre.map (·.1) = (ixs evs.length k).filter (selAt evs) ++ [⟨k, hk⟩]) evs.length w := fun l J Jx W hW hB2 hJ hJx hY h0 => by
  refine (calls1_in l Bs n₀ B₁ B₂ b off cap A evs hA hb (fun pre W => ∃ ys : List (Sx evs), ys.map (·.1) = pre ∧ J ys W) (fun pre W => ∃ ys : List (Sx evs), ys.map (·.1) = pre ∧ Jx ys W) W hbB (fun x f u hu => ?_) (by have := hW.size; omega) (hc.below hW hc.lt) hB hB2
    (fun s X Y row hs hg hr => by
      obtain ⟨ys, h1, h2⟩ := hs
      exact ⟨ys, h1, hJ ys X Y row h2 hg hr⟩)
    (fun s X Y row hs hg hr => by
      obtain ⟨ys, h1, h2⟩ := hs
      exact ⟨ys, h1, hJx ys X Y row h2 hg hr⟩) ?_ ⟨[], rfl, h0⟩).mono ?_
  · have hlt := hbB (by have := x.2; omega)
    exact (hW.cell (p := ⟨b, off + x.1 * 14 + f, none⟩) (by show b < _; omega)).trans (hcells x f u hu)
  · rintro pre x W1 hx ⟨ys, rfl, hj⟩ hlen
    obtain ⟨fn, tmps, assign, body, hy, hR⟩ := hY ys ⟨x, hx⟩ W1 hj (by simpa using hlen)
    refine ⟨fn, tmps, assign, body, hy, hR.mono ?_⟩
    rintro e W' (⟨he, hj', hk⟩ | ⟨he, hj', hk⟩)
    · exact .inl ⟨he, ⟨ys ++ [⟨x, hx⟩], by simp, hj'⟩, hk⟩
    · exact .inr ⟨he, ⟨ys ++ [⟨x, hx⟩], by simp, hj'⟩, hk⟩
  · rintro e W' ⟨he, ⟨_, rfl, ys, h1, h2⟩ | ⟨_, ⟨k, hk, hs, rfl⟩, ys, h1, h2⟩⟩
    · exact ⟨he, .inl ⟨ys, h1, h2⟩⟩
    · exact ⟨he, .inr ⟨ys, ⟨k, hk, hs, h1⟩, h2⟩⟩
end Go.Proofs.YtbgibbbggajgaaaGreat
/- audit: each and calls, their iterators. -/
namespace Go.Proofs.YtbgibbbggajgaaaGreat
set_option linter.all false
open Go.RowKit
attribute [local irreducible] KC KI KQ
def evPtr (b off i : Nat) : Value := .pointer (some ⟨b, off + i * 14, none⟩)
def idEncs (b off : Nat) (ids : List Nat) : List (List Value) := ids.map fun (i : Nat) => [.int .i64 (i : Int), evPtr b off i]
theorem idEncs_get {b off k : Nat} {ids : List Nat} {vs : List Value} (h : (idEncs b off ids)[k]? = some vs) : ∃ i, ids[k]? = some i ∧ vs = [.int .i64 (i : Int), evPtr b off i] := by
  simp only [idEncs, List.getElem?_map, Option.map_eq_some_iff] at h
  obtain ⟨i, h, e⟩ := h
  exact ⟨i, h, e.symm⟩
def selI (evs : List Ev) (i : Nat) : Bool := (evs[i]?.map sel).getD false
def selIds (evs : List Ev) : List Nat := (List.range evs.length).filter (selI evs)

theorem each1_iter (p : Piece) (g1 b off n c : Nat) (A : Option Addr) (hA : 0 < n → A = some ⟨b, off, none⟩) (h1 : RP p g1 0 (.slice A n c)) (hn2 : (n : Int) ≤ 9223372036854775806) :
    Iter Tryz.prog 64 [.pointer (some ⟨g1, 0, none⟩)] (idEncs b off (List.range n)) p := by
  unfold Iter
  intro l J Jx W F hp hd hJ hF hY
  refine XC.enter (vs := [.func (.yield l) #[] #[], .pointer (some ⟨g1, 0, none⟩)]) Tryz.func64 rfl Tryz.ntmps64 (by simp) (St.iter hp hd hJ hF) ?_
  dsimp only [List.cons_append, List.nil_append]
  refine XC.seq ?_

  refine XC.regionW (by kernel_rfl) ?_
  refine xk_load (by kernel_rfl) rfl (h1.rd (by simp)) (by decide) ?_
  refine xk_len (el := 42) (by kernel_rfl) rfl (by decide) ?_
  refine xk_move rfl (by decide) ?_
  refine XC.endW ?_
  refine XC.norm ?_
  refine XK.envS [(6, .int .i64 0), (5, .int .i64 n), (1, .pointer (some ⟨g1, 0, none⟩)), (0, .func (.yield l) #[] #[])] ?_
  refine XC.block ?_
  refine XC.loop (fun m L e R H => ∃ k : Nat, k ≤ n ∧ m = n - k ∧ L = [] ∧ e = [(6, .int .i64 k), (5, .int .i64 n), (1, .pointer (some ⟨g1, 0, none⟩)), (0, .func (.yield l) #[] #[])] ∧ R = [p, nt W F] ∧ H = [J k, HP.marks []]) n ⟨0, by omega, rfl, rfl, rfl, rfl, rfl⟩ fun m L e R H hI => ?_
  obtain ⟨k, hk, rfl, rfl, rfl, rfl, rfl⟩ := hI
  refine XC.seq ?_

  refine XC.regionW (by kernel_rfl) ?_
  refine xk_lss rfl rfl (by decide) ?_
  refine XC.endW ?_
  refine XC.norm ?_
  refine XC.seq ?_
  refine XC.if_ rfl (fun h => ?_) (fun h => ?_)
  ·
    refine XC.skip ?_
    refine XC.norm ?_
    refine XC.seq ?_
    refine XC.block ?_
    refine XC.seq ?_
    have hkn : k < n := by omega
    obtain rfl := hA (by omega)

    refine XC.regionW (by kernel_rfl) ?_
    refine xk_move rfl (by decide) ?_
    refine xk_assign rfl (by decide) ?_
    refine XC.endW ?_
    refine XC.norm ?_
    refine XC.seq ?_

    refine XC.region ?_
    refine XI.op (by kernel_rfl) ?_; refine xk_move rfl (by decide) ?_; refine XI.back ?_
    refine XI.op (by kernel_rfl) ?_; refine xk_move rfl (by decide) ?_; refine XI.back ?_
    refine XI.op (by kernel_rfl) ?_; refine xk_load (by kernel_rfl) rfl (h1.rd (by simp)) (by decide) ?_; refine XI.back ?_
    refine XI.op (by kernel_rfl) ?_; refine xk_move rfl (by decide) ?_; refine XI.back ?_
    refine XI.op (by kernel_rfl) ?_; refine xk_at (k) (off + k * 14) (el := 42) (sz := 14) (by kernel_rfl) (by kernel_rfl) rfl rfl (by omega) (by omega) (by omega) (by decide) ?_; refine XI.back ?_
    refine XI.yield 0 rfl rfl (by decide) (by simp : nt W F ∈ [p, nt W F]) (Same.refl W) rfl (fun W1 F1 h1 h2 h3 => hY k _ W1 F1 (by simp [idEncs, hkn]; rfl) h1 h2 h3) ?_ ?_
    rotate_left
    ·
      refine XI.op (by kernel_rfl) ?_; refine xk_not rfl (by decide) ?_; refine XI.back ?_
      refine XI.nil ?_
      refine XC.norm ?_
      refine XC.cond rfl (fun _ => ?_) (fun h => by cases h)
      refine XC.ret ?_
      refine XC.norm ?_
      refine XC.ret0 (Hs := [Jx (k + 1)]) (.inl rfl) rfl fun w1 st => ?_
      obtain ⟨F', h1, h2⟩ := st.turns hF (by simp [nt]) (i := 0) rfl
      exact ⟨⟨_, rfl⟩, F', h2, .inr ⟨k, by simpa [idEncs] using hkn, h1⟩⟩
    dsimp only [List.set]
    refine XI.op (by kernel_rfl) ?_; refine xk_not rfl (by decide) ?_; refine XI.back ?_
    refine XI.nil ?_
    refine XC.norm ?_
    refine XC.cond rfl (fun h => by cases h) (fun _ => ?_)

    · skip
      refine XC.skip ?_
      refine XC.norm ?_

      refine XC.regionW (by kernel_rfl) ?_
      refine xk_add rfl rfl (wrap_in (by omega)) (by decide) ?_
      refine xk_move rfl (by decide) ?_
      refine XC.endW ?_
      refine XC.norm ?_
      exact XK.envS [(6, .int .i64 (k + 1)), (5, .int .i64 n), (1, .pointer (some ⟨g1, 0, none⟩)), (0, .func (.yield l) #[] #[])] (XC.round (n - (k + 1)) (by omega) ⟨k + 1, by omega, rfl, rfl, rfl, rfl, rfl⟩)
  ·
    refine XC.exit ?_
    refine XC.norm ?_
    have hkn : k = n := by omega
    subst hkn
    refine XC.ret0 (Hs := [J k]) (.inr rfl) rfl fun w1 st => ?_
    obtain ⟨F', h1, h2⟩ := st.turns hF (by simp [nt]) (i := 0) rfl
    exact ⟨⟨_, rfl⟩, F', h2, .inl (by simpa [idEncs] using h1)⟩

def EachOk (A : Option Addr) (n : Nat) (y : Value) (w w' : World) : Prop := ∃ g, y = .func (.func 64) #[] #[.pointer (some ⟨g, 0, none⟩)] ∧ ∀ q, (fresh w w').Le q → ∀ b off, (0 < n → A = some ⟨b, off, none⟩) → Iter Tryz.prog 64 [.pointer (some ⟨g, 0, none⟩)] (idEncs b off (List.range n)) q
theorem each_ok (A : Option Addr) (n c : Nat) (w : World) (hn2 : (n : Int) ≤ 9223372036854775806) : Calls Tryz.prog 38 #[.slice A n c] w (fun y w' => (∃ x, y = .returned x ∧ EachOk A n x w w') ∧ Below w.heap.size w w') := by
  refine XK.enter (vs := [.slice A n c]) Tryz.func38 rfl Tryz.ntmps38 (by simp) ?_
  refine XK.seq ?_

  refine XK.region ?_
  refine xk_box rfl (by decide) fun g1 => ?_
  refine xk_assign rfl (by decide) ?_
  refine XK.nilN ?_
  refine XK.seq ?_

  refine XK.region ?_
  refine xk_func (vf := []) (vc := [.pointer (some ⟨g1, 0, none⟩)]) rfl rfl (by decide) ?_
  refine xk_assign rfl (by decide) ?_
  refine XK.nilN ?_
  refine XK.ret ?_
  refine XK.norm ?_
  refine XK.still [] [0] [] (by simp) rfl (by decide) (by decide) fun q hq _ hfr => ?_
  refine XK.ret1 rfl rfl fun w1 st => ⟨⟨_, rfl, g1, rfl, fun q2 hf b off hA => ?_⟩, st.below (by simp)⟩
  exact each1_iter q2 g1 b off n c A hA ((RP.of_blk (o := 0) (v := .slice A n c) (hq 0 _ (by simp) rfl) rfl).le ((st.fresh_le (by simp) (hfr (by simp) (by simp))).trans' hf)) hn2

theorem calls1_iter (p : Piece) (g1 b off n c : Nat) (A : Option Addr) (evs : List Ev) (hn : n = evs.length) (hA : 0 < n → A = some ⟨b, off, none⟩) (h1 : RP p g1 0 (.slice A n c)) (hs : EvS p A evs) (hn2 : (n : Int) ≤ 9223372036854775806) :
    Iter Tryz.prog 66 [.pointer (some ⟨g1, 0, none⟩)] (idEncs b off (selIds evs)) p := by
  unfold Iter
  intro l J Jx W F hp hd hJ hF hY
  refine XC.enter (vs := [.func (.yield l) #[] #[], .pointer (some ⟨g1, 0, none⟩)]) Tryz.func66 rfl Tryz.ntmps66 (by simp) (St.iter hp hd hJ hF) ?_
  dsimp only [List.cons_append, List.nil_append]
  refine XC.seq ?_

  refine XC.regionW (by kernel_rfl) ?_
  refine xk_box rfl (by decide) fun g2 => ?_
  refine XC.endW ?_
  refine XC.norm ?_
  refine XC.seq ?_

  refine XC.regionW (by kernel_rfl) ?_
  refine xk_load (by kernel_rfl) rfl (h1.rd (by simp)) (by decide) ?_
  refine xk_call [] (f := 38) (fi := []) (ca := []) (by kernel_rfl) rfl rfl (by decide) (by simp) (EachOk A n) (fun w1 st => each_ok A n c w1 hn2) ?_
  rintro _ w1 q3 ⟨g3, rfl, hit'⟩ hf _ _
  have hit := hit' q3 hf b off hA
  clear hit' hf
  refine XC.endW ?_
  refine XC.norm ?_
  refine XC.block ?_
  refine XK.envS [(6, .func (.func 64) #[] #[.pointer (some ⟨g3, 0, none⟩)]), (2, .pointer (some ⟨g2, 0, none⟩))] ?_
  refine XC.range (gf := 64) (lb := [.pointer (some ⟨g3, 0, none⟩)]) (encs := idEncs b off (List.range n)) (p := q3) rfl (by kernel_rfl) hit (by simp) (fun vs hvs => ?_) (by decide) (fun k => [HP.blk g2 143 [.func (.yield l) #[] #[]], J (((List.range n).take k).filter (selI evs)).length]) (fun _ => [HP.blk g2 143 [.func (.yield l) #[] #[]], HP.ex fun i : Fin (selIds evs).length => Jx (i.1 + 1)])
    (fun k vs e1 H1 => ∃ i : Nat, (List.range n)[k]? = some i ∧ e1 = [(4, evPtr b off i), (3, .int .i64 (i : Int)), (2, .pointer (some ⟨g2, 0, none⟩))] ∧ H1 = [HP.blk g2 143 [.func (.yield l) #[] #[]], J (((List.range n).take k).filter (selI evs)).length]) rfl ?_ ?_ ?_ ?_
  · simp only [idEncs, List.mem_map] at hvs
    obtain ⟨i, _, rfl⟩ := hvs
    rfl
  ·
    intro l2 k vs W1 q X hvs hsm
    obtain ⟨i, hik, rfl⟩ := idEncs_get hvs
    dsimp only [bindE, List.cons_append, List.nil_append]
    refine XC.seq ?_

    refine XC.regionW (by kernel_rfl) ?_
    refine xk_assign rfl (by decide) ?_
    refine XC.endW ?_
    refine XC.norm ?_

    refine XC.regionW (by kernel_rfl) ?_
    refine xk_assign rfl (by decide) ?_
    refine XC.endW ?_
    refine XC.norm ?_
    refine XK.envS [(4, evPtr b off i), (3, .int .i64 (i : Int)), (2, .pointer (some ⟨g2, 0, none⟩))] ?_
    exact XC.assigned (H1 := [HP.blk g2 143 [.func (.yield l) #[] #[]], J (((List.range n).take k).filter (selI evs)).length]) ⟨i, hik, rfl, rfl⟩
  ·
    rintro l2 k vs W1 q X _ _ hvs hsm ⟨i, hik, rfl, rfl⟩
    have hin : i < n := List.mem_range.1 (List.mem_of_getElem? hik)
    obtain rfl := hA (by omega)
    obtain ⟨x, hev⟩ : ∃ x, evs[i]? = some x := ⟨_, List.getElem?_eq_getElem (by omega)⟩
    obtain ⟨hz, hcs⟩ := hs.ev hev
    dsimp only [List.cons_append, List.nil_append, evPtr]
    refine XC.block ?_
    refine XC.seq ?_
    refine XC.seq ?_

    refine XC.regionW (by kernel_rfl) ?_
    refine xk_move rfl (by decide) ?_
    refine xk_nilC rfl (by decide) ?_
    refine xk_field (off := 0) (by kernel_rfl) rfl (by decide) ?_
    refine xk_load (by kernel_rfl) rfl (Rd.ro (p := p) (by simp) hz (hcs 0 _ rfl)) (by decide) ?_
    refine xk_neq rfl rfl (by decide) ?_
    refine xk_move rfl (by decide) ?_
    (first | refine xk_split (t := 14) rfl (fun hg => ?_) (fun hg => ?_) | refine xk_splitB (t := 14) rfl (fun hg => ?_) (fun hg => ?_))
    ·
      refine xk_guardT rfl rfl ?_; refine xk_move rfl (by decide) ?_
      refine xk_guardT rfl rfl ?_; refine xk_nilC rfl (by decide) ?_
      refine xk_guardT rfl rfl ?_; refine xk_field (off := 0) (by kernel_rfl) rfl (by decide) ?_
      refine xk_guardT rfl rfl ?_; refine xk_load (by kernel_rfl) rfl (Rd.ro (p := p) (by simp) hz (hcs 0 _ rfl)) (by decide) ?_
      refine xk_guardT rfl rfl ?_; refine xk_neq rfl rfl (by decide) ?_
      (first | refine xk_pickT rfl rfl (by decide) ?_ | refine xk_pickF rfl rfl (by decide) ?_)
      refine XC.endW ?_
      refine XC.norm ?_
      refine XC.if_ rfl (fun h => ?_) (fun h => ?_)
      ·
        refine XC.exit ?_
        refine XC.norm ?_
        have hsel : selI evs i = false := by simp only [selI, hev, Option.map_some, Option.getD_some, sel]; simp_all; try (intros; omega)
        have hf2 := filter_skip hik hsel
        refine XK.weak [0, 1, 2] rfl (by decide) (fun _ hp => hp) ?_
        rw [← hf2]
        exact XC.bodyN
      ·
        refine XC.skip ?_
        refine XC.norm ?_
        refine XC.seq ?_

        refine XC.region ?_
        refine XI.op (by kernel_rfl) ?_; refine xk_move rfl (by decide) ?_; refine XI.back ?_
        refine XI.op (by kernel_rfl) ?_; refine xk_nilC rfl (by decide) ?_; refine XI.back ?_
        refine XI.op (by kernel_rfl) ?_; refine xk_field (off := 1) (by kernel_rfl) rfl (by decide) ?_; refine XI.back ?_
        refine XI.op (by kernel_rfl) ?_; refine xk_load (by kernel_rfl) rfl (Rd.ro (p := p) (by simp) hz (hcs 1 _ rfl)) (by decide) ?_; refine XI.back ?_
        refine XI.op (by kernel_rfl) ?_; refine xk_geq rfl rfl (by decide) ?_; refine XI.back ?_
        refine XI.op (by kernel_rfl) ?_; refine xk_move rfl (by decide) ?_; refine XI.back ?_
        (first | refine xk_split (t := 26) rfl (fun hg => ?_) (fun hg => ?_) | refine xk_splitB (t := 26) rfl (fun hg => ?_) (fun hg => ?_))
        ·
          refine XI.op (by kernel_rfl) ?_; refine xk_guardT rfl rfl ?_; refine xk_move rfl (by decide) ?_; refine XI.back ?_
          refine XI.op (by kernel_rfl) ?_; refine xk_guardT rfl rfl ?_; refine xk_nilC rfl (by decide) ?_; refine XI.back ?_
          refine XI.op (by kernel_rfl) ?_; refine xk_guardT rfl rfl ?_; refine xk_field (off := 1) (by kernel_rfl) rfl (by decide) ?_; refine XI.back ?_
          refine XI.op (by kernel_rfl) ?_; refine xk_guardT rfl rfl ?_; refine xk_load (by kernel_rfl) rfl (Rd.ro (p := p) (by simp) hz (hcs 1 _ rfl)) (by decide) ?_; refine XI.back ?_
          refine XI.op (by kernel_rfl) ?_; refine xk_guardT rfl rfl ?_; refine xk_lss rfl rfl (by decide) ?_; refine XI.back ?_
          refine XI.op (by kernel_rfl) ?_; (first | refine xk_pickT rfl rfl (by decide) ?_ | refine xk_pickF rfl rfl (by decide) ?_); refine XI.back ?_
          refine XI.op (by kernel_rfl) ?_; refine xk_move rfl (by decide) ?_; refine XI.back ?_
          (first | refine xk_split (t := 33) rfl (fun hg => ?_) (fun hg => ?_) | refine xk_splitB (t := 33) rfl (fun hg => ?_) (fun hg => ?_))
          ·
            refine XI.op (by kernel_rfl) ?_; refine xk_guardT rfl rfl ?_; refine xk_load (by kernel_rfl) rfl (Rd.blk 0 rfl rfl) (by decide) ?_; refine XI.back ?_
            refine XI.op (by kernel_rfl) ?_; refine xk_guardT rfl rfl ?_; refine xk_move rfl (by decide) ?_; refine XI.back ?_
            refine XI.op (by kernel_rfl) ?_; refine xk_guardT rfl rfl ?_; refine xk_move rfl (by decide) ?_; refine XI.back ?_
            have hsel : selI evs i = true := by simp only [selI, hev, Option.map_some, Option.getD_some, sel, Bool.and_eq_true, Bool.or_eq_true, beq_iff_eq, decide_eq_true_eq]; simp_all
            obtain ⟨hf1, hf2⟩ := filter_next hik hsel
            refine XI.guardT rfl rfl ?_
            refine XI.yield 1 rfl rfl (by decide) (by simp : nt W F ∈ [q3, p, nt W F, q]) hsm rfl (fun W2 F2 h1 h2 h3 => hY _ [.int .i64 (i : Int), evPtr b off i] W2 F2 (by rw [idEncs, List.getElem?_map, selIds, ← hn, hf1]; rfl) h1 h2 h3) ?_ ?_
            · dsimp only [List.set]
              refine XI.op (by kernel_rfl) ?_; refine xk_guardT rfl rfl ?_; refine xk_not rfl (by decide) ?_; refine XI.back ?_
              refine XI.op (by kernel_rfl) ?_; (first | refine xk_pickT rfl rfl (by decide) ?_ | refine xk_pickF rfl rfl (by decide) ?_); refine XI.back ?_
              refine XI.nil ?_
              refine XC.norm ?_
              refine XC.cond rfl (fun h => by cases h) (fun _ => ?_)
              refine XC.skip ?_
              refine XC.norm ?_
              rw [← hf2]
              exact XC.bodyN
            · dsimp only [List.set]
              refine XI.op (by kernel_rfl) ?_; refine xk_guardT rfl rfl ?_; refine xk_not rfl (by decide) ?_; refine XI.back ?_
              refine XI.op (by kernel_rfl) ?_; (first | refine xk_pickT rfl rfl (by decide) ?_ | refine xk_pickF rfl rfl (by decide) ?_); refine XI.back ?_
              refine XI.nil ?_
              refine XC.norm ?_
              refine XC.cond rfl (fun _ => ?_) (fun h => by cases h)
              refine XC.ret ?_
              refine XC.norm ?_
              rw [← hf2]
              refine XK.toEx 1 (f := fun i : Fin (selIds evs).length => Jx (i.1 + 1)) ⟨_, by rw [selIds, ← hn]; exact (List.getElem?_eq_some_iff.1 hf1).1⟩ (by rw [hf2]; rfl) ?_
              dsimp only [List.set]
              exact XC.bodyR
          ·
            refine XI.op (by kernel_rfl) ?_; refine xk_guardF rfl rfl rfl (by decide) ?_; refine XI.back ?_
            refine XI.op (by kernel_rfl) ?_; refine xk_guardF rfl rfl rfl (by decide) ?_; refine XI.back ?_
            refine XI.op (by kernel_rfl) ?_; refine xk_guardF rfl rfl rfl (by decide) ?_; refine XI.back ?_
            refine XI.op (by kernel_rfl) ?_; refine xk_guardF rfl rfl rfl (by decide) ?_; refine XI.back ?_
            refine XI.op (by kernel_rfl) ?_; refine xk_guardF rfl rfl rfl (by decide) ?_; refine XI.back ?_
            refine XI.op (by kernel_rfl) ?_; (first | refine xk_pickT rfl rfl (by decide) ?_ | refine xk_pickF rfl rfl (by decide) ?_); refine XI.back ?_
            refine XI.nil ?_
            refine XC.norm ?_
            refine XC.cond rfl (fun h => by cases h) (fun _ => ?_)
            refine XC.skip ?_
            refine XC.norm ?_
            have hsel : selI evs i = false := by simp only [selI, hev, Option.map_some, Option.getD_some, sel]; simp_all; try (intros; omega)
            have hf2 := filter_skip hik hsel
            refine XK.weak [0, 1, 2] rfl (by decide) (fun _ hp => hp) ?_
            rw [← hf2]
            exact XC.bodyN
        ·
          refine XI.op (by kernel_rfl) ?_; refine xk_guardF rfl rfl rfl (by decide) ?_; refine XI.back ?_
          refine XI.op (by kernel_rfl) ?_; refine xk_guardF rfl rfl rfl (by decide) ?_; refine XI.back ?_
          refine XI.op (by kernel_rfl) ?_; refine xk_guardF rfl rfl rfl (by decide) ?_; refine XI.back ?_
          refine XI.op (by kernel_rfl) ?_; refine xk_guardF rfl rfl rfl (by decide) ?_; refine XI.back ?_
          refine XI.op (by kernel_rfl) ?_; refine xk_guardF rfl rfl rfl (by decide) ?_; refine XI.back ?_
          refine XI.op (by kernel_rfl) ?_; (first | refine xk_pickT rfl rfl (by decide) ?_ | refine xk_pickF rfl rfl (by decide) ?_); refine XI.back ?_
          refine XI.op (by kernel_rfl) ?_; refine xk_move rfl (by decide) ?_; refine XI.back ?_
          refine XI.op (by kernel_rfl) ?_; refine xk_guardF rfl rfl rfl (by decide) ?_; refine XI.back ?_
          refine XI.op (by kernel_rfl) ?_; refine xk_guardF rfl rfl rfl (by decide) ?_; refine XI.back ?_
          refine XI.op (by kernel_rfl) ?_; refine xk_guardF rfl rfl rfl (by decide) ?_; refine XI.back ?_
          refine XI.op (by kernel_rfl) ?_; refine xk_guardF rfl rfl rfl (by decide) ?_; refine XI.back ?_
          refine XI.op (by kernel_rfl) ?_; refine xk_guardF rfl rfl rfl (by decide) ?_; refine XI.back ?_
          refine XI.op (by kernel_rfl) ?_; (first | refine xk_pickT rfl rfl (by decide) ?_ | refine xk_pickF rfl rfl (by decide) ?_); refine XI.back ?_
          refine XI.nil ?_
          refine XC.norm ?_
          refine XC.cond rfl (fun h => by cases h) (fun _ => ?_)
          refine XC.skip ?_
          refine XC.norm ?_
          have hsel : selI evs i = false := by simp only [selI, hev, Option.map_some, Option.getD_some, sel]; simp_all; try (intros; omega)
          have hf2 := filter_skip hik hsel
          refine XK.weak [0, 1, 2] rfl (by decide) (fun _ hp => hp) ?_
          rw [← hf2]
          exact XC.bodyN
    ·
      refine xk_guardF rfl rfl rfl (by decide) ?_
      refine xk_guardF rfl rfl rfl (by decide) ?_
      refine xk_guardF rfl rfl rfl (by decide) ?_
      refine xk_guardF rfl rfl rfl (by decide) ?_
      refine xk_guardF rfl rfl rfl (by decide) ?_
      (first | refine xk_pickT rfl rfl (by decide) ?_ | refine xk_pickF rfl rfl (by decide) ?_)
      refine XC.endW ?_
      refine XC.norm ?_
      refine XC.cond rfl (fun h => by cases h) (fun _ => ?_)
      refine XC.skip ?_
      refine XC.norm ?_
      refine XC.seq ?_

      refine XC.region ?_
      refine XI.op (by kernel_rfl) ?_; refine xk_move rfl (by decide) ?_; refine XI.back ?_
      refine XI.op (by kernel_rfl) ?_; refine xk_nilC rfl (by decide) ?_; refine XI.back ?_
      refine XI.op (by kernel_rfl) ?_; refine xk_field (off := 1) (by kernel_rfl) rfl (by decide) ?_; refine XI.back ?_
      refine XI.op (by kernel_rfl) ?_; refine xk_load (by kernel_rfl) rfl (Rd.ro (p := p) (by simp) hz (hcs 1 _ rfl)) (by decide) ?_; refine XI.back ?_
      refine XI.op (by kernel_rfl) ?_; refine xk_geq rfl rfl (by decide) ?_; refine XI.back ?_
      refine XI.op (by kernel_rfl) ?_; refine xk_move rfl (by decide) ?_; refine XI.back ?_
      (first | refine xk_split (t := 26) rfl (fun hg => ?_) (fun hg => ?_) | refine xk_splitB (t := 26) rfl (fun hg => ?_) (fun hg => ?_))
      ·
        refine XI.op (by kernel_rfl) ?_; refine xk_guardT rfl rfl ?_; refine xk_move rfl (by decide) ?_; refine XI.back ?_
        refine XI.op (by kernel_rfl) ?_; refine xk_guardT rfl rfl ?_; refine xk_nilC rfl (by decide) ?_; refine XI.back ?_
        refine XI.op (by kernel_rfl) ?_; refine xk_guardT rfl rfl ?_; refine xk_field (off := 1) (by kernel_rfl) rfl (by decide) ?_; refine XI.back ?_
        refine XI.op (by kernel_rfl) ?_; refine xk_guardT rfl rfl ?_; refine xk_load (by kernel_rfl) rfl (Rd.ro (p := p) (by simp) hz (hcs 1 _ rfl)) (by decide) ?_; refine XI.back ?_
        refine XI.op (by kernel_rfl) ?_; refine xk_guardT rfl rfl ?_; refine xk_lss rfl rfl (by decide) ?_; refine XI.back ?_
        refine XI.op (by kernel_rfl) ?_; (first | refine xk_pickT rfl rfl (by decide) ?_ | refine xk_pickF rfl rfl (by decide) ?_); refine XI.back ?_
        refine XI.op (by kernel_rfl) ?_; refine xk_move rfl (by decide) ?_; refine XI.back ?_
        (first | refine xk_split (t := 33) rfl (fun hg => ?_) (fun hg => ?_) | refine xk_splitB (t := 33) rfl (fun hg => ?_) (fun hg => ?_))
        ·
          refine XI.op (by kernel_rfl) ?_; refine xk_guardT rfl rfl ?_; refine xk_load (by kernel_rfl) rfl (Rd.blk 0 rfl rfl) (by decide) ?_; refine XI.back ?_
          refine XI.op (by kernel_rfl) ?_; refine xk_guardT rfl rfl ?_; refine xk_move rfl (by decide) ?_; refine XI.back ?_
          refine XI.op (by kernel_rfl) ?_; refine xk_guardT rfl rfl ?_; refine xk_move rfl (by decide) ?_; refine XI.back ?_
          have hsel : selI evs i = true := by simp only [selI, hev, Option.map_some, Option.getD_some, sel, Bool.and_eq_true, Bool.or_eq_true, beq_iff_eq, decide_eq_true_eq]; simp_all
          obtain ⟨hf1, hf2⟩ := filter_next hik hsel
          refine XI.guardT rfl rfl ?_
          refine XI.yield 1 rfl rfl (by decide) (by simp : nt W F ∈ [q3, p, nt W F, q]) hsm rfl (fun W2 F2 h1 h2 h3 => hY _ [.int .i64 (i : Int), evPtr b off i] W2 F2 (by rw [idEncs, List.getElem?_map, selIds, ← hn, hf1]; rfl) h1 h2 h3) ?_ ?_
          · dsimp only [List.set]
            refine XI.op (by kernel_rfl) ?_; refine xk_guardT rfl rfl ?_; refine xk_not rfl (by decide) ?_; refine XI.back ?_
            refine XI.op (by kernel_rfl) ?_; (first | refine xk_pickT rfl rfl (by decide) ?_ | refine xk_pickF rfl rfl (by decide) ?_); refine XI.back ?_
            refine XI.nil ?_
            refine XC.norm ?_
            refine XC.cond rfl (fun h => by cases h) (fun _ => ?_)
            refine XC.skip ?_
            refine XC.norm ?_
            rw [← hf2]
            exact XC.bodyN
          · dsimp only [List.set]
            refine XI.op (by kernel_rfl) ?_; refine xk_guardT rfl rfl ?_; refine xk_not rfl (by decide) ?_; refine XI.back ?_
            refine XI.op (by kernel_rfl) ?_; (first | refine xk_pickT rfl rfl (by decide) ?_ | refine xk_pickF rfl rfl (by decide) ?_); refine XI.back ?_
            refine XI.nil ?_
            refine XC.norm ?_
            refine XC.cond rfl (fun _ => ?_) (fun h => by cases h)
            refine XC.ret ?_
            refine XC.norm ?_
            rw [← hf2]
            refine XK.toEx 1 (f := fun i : Fin (selIds evs).length => Jx (i.1 + 1)) ⟨_, by rw [selIds, ← hn]; exact (List.getElem?_eq_some_iff.1 hf1).1⟩ (by rw [hf2]; rfl) ?_
            dsimp only [List.set]
            exact XC.bodyR
        ·
          refine XI.op (by kernel_rfl) ?_; refine xk_guardF rfl rfl rfl (by decide) ?_; refine XI.back ?_
          refine XI.op (by kernel_rfl) ?_; refine xk_guardF rfl rfl rfl (by decide) ?_; refine XI.back ?_
          refine XI.op (by kernel_rfl) ?_; refine xk_guardF rfl rfl rfl (by decide) ?_; refine XI.back ?_
          refine XI.op (by kernel_rfl) ?_; refine xk_guardF rfl rfl rfl (by decide) ?_; refine XI.back ?_
          refine XI.op (by kernel_rfl) ?_; refine xk_guardF rfl rfl rfl (by decide) ?_; refine XI.back ?_
          refine XI.op (by kernel_rfl) ?_; (first | refine xk_pickT rfl rfl (by decide) ?_ | refine xk_pickF rfl rfl (by decide) ?_); refine XI.back ?_
          refine XI.nil ?_
          refine XC.norm ?_
          refine XC.cond rfl (fun h => by cases h) (fun _ => ?_)
          refine XC.skip ?_
          refine XC.norm ?_
          have hsel : selI evs i = false := by simp only [selI, hev, Option.map_some, Option.getD_some, sel]; simp_all; try (intros; omega)
          have hf2 := filter_skip hik hsel
          refine XK.weak [0, 1, 2] rfl (by decide) (fun _ hp => hp) ?_
          rw [← hf2]
          exact XC.bodyN
      ·
        refine XI.op (by kernel_rfl) ?_; refine xk_guardF rfl rfl rfl (by decide) ?_; refine XI.back ?_
        refine XI.op (by kernel_rfl) ?_; refine xk_guardF rfl rfl rfl (by decide) ?_; refine XI.back ?_
        refine XI.op (by kernel_rfl) ?_; refine xk_guardF rfl rfl rfl (by decide) ?_; refine XI.back ?_
        refine XI.op (by kernel_rfl) ?_; refine xk_guardF rfl rfl rfl (by decide) ?_; refine XI.back ?_
        refine XI.op (by kernel_rfl) ?_; refine xk_guardF rfl rfl rfl (by decide) ?_; refine XI.back ?_
        refine XI.op (by kernel_rfl) ?_; (first | refine xk_pickT rfl rfl (by decide) ?_ | refine xk_pickF rfl rfl (by decide) ?_); refine XI.back ?_
        refine XI.op (by kernel_rfl) ?_; refine xk_move rfl (by decide) ?_; refine XI.back ?_
        refine XI.op (by kernel_rfl) ?_; refine xk_guardF rfl rfl rfl (by decide) ?_; refine XI.back ?_
        refine XI.op (by kernel_rfl) ?_; refine xk_guardF rfl rfl rfl (by decide) ?_; refine XI.back ?_
        refine XI.op (by kernel_rfl) ?_; refine xk_guardF rfl rfl rfl (by decide) ?_; refine XI.back ?_
        refine XI.op (by kernel_rfl) ?_; refine xk_guardF rfl rfl rfl (by decide) ?_; refine XI.back ?_
        refine XI.op (by kernel_rfl) ?_; refine xk_guardF rfl rfl rfl (by decide) ?_; refine XI.back ?_
        refine XI.op (by kernel_rfl) ?_; (first | refine xk_pickT rfl rfl (by decide) ?_ | refine xk_pickF rfl rfl (by decide) ?_); refine XI.back ?_
        refine XI.nil ?_
        refine XC.norm ?_
        refine XC.cond rfl (fun h => by cases h) (fun _ => ?_)
        refine XC.skip ?_
        refine XC.norm ?_
        have hsel : selI evs i = false := by simp only [selI, hev, Option.map_some, Option.getD_some, sel]; simp_all; try (intros; omega)
        have hf2 := filter_skip hik hsel
        refine XK.weak [0, 1, 2] rfl (by decide) (fun _ hp => hp) ?_
        rw [← hf2]
        exact XC.bodyN
  rotate_left
  ·
    intro D k hk
    dsimp only [List.cons_append, List.nil_append]
    refine XC.ret ?_
    refine XC.norm ?_
    refine XK.openEx 1 rfl fun i => ?_
    dsimp only [List.set]
    refine XC.ret0 (Hs := [HP.blk g2 143 [.func (.yield l) #[] #[]], Jx (i.1 + 1)]) (.inl rfl) rfl fun w1 st => ?_
    obtain ⟨F', h1, h2⟩ := st.turns hF (by simp [nt]) (i := 1) rfl
    exact ⟨⟨_, rfl⟩, F', h2, .inr ⟨i.1, by simpa [idEncs] using i.2, h1⟩⟩
  intro D
  dsimp only [List.cons_append, List.nil_append]
  refine XC.norm ?_
  refine XC.ret0 (Hs := [HP.blk g2 143 [.func (.yield l) #[] #[]], J (((List.range n).take (idEncs b off (List.range n)).length).filter (selI evs)).length]) (.inr rfl) rfl fun w1 st => ?_
  obtain ⟨F', h1, h2⟩ := st.turns hF (by simp [nt]) (i := 1) rfl
  rw [List.take_of_length_le (by simp [idEncs])] at h1
  exact ⟨⟨_, rfl⟩, F', h2, .inl (by simpa [idEncs, selIds, ← hn] using h1)⟩

end Go.Proofs.YtbgibbbggajgaaaGreat
/- audit.Order: the first that ended otherwise than it had to. -/
namespace Go.Proofs.YtbgibbbggajgaaaGreat
set_option linter.all false
open Go.RowKit
attribute [local irreducible] KC KI KQ
instance : Inhabited Ev := ⟨⟨0, 0, 0, 0, 0, 0, 0, 0, 0, 0, false, 0, false, none, 0, []⟩⟩
/-- those that begin or end a call of a task -/
def selE (evs : List Ev) : List Ev := (selIds evs).map fun i => evs[i]?.getD default
theorem selE_get {evs : List Ev} {k i : Nat} (h : (selIds evs)[k]? = some i) : ∃ x, evs[i]? = some x ∧ (selE evs)[k]? = some x ∧ sel x = true := by
  have hm := List.mem_of_getElem? h
  unfold selIds at hm
  obtain ⟨h1, h2⟩ := List.mem_filter.1 hm
  have hlt := List.mem_range.1 h1
  have hx : evs[i]? = some evs[i] := List.getElem?_eq_getElem hlt
  refine ⟨evs[i], hx, ?_, ?_⟩
  · rw [selE, List.getElem?_map, h, Option.map_some, hx]; rfl
  · rw [selI, hx] at h2; exact h2
structure Ost where
  x : Crs
  last : List Int
def ost0 : Ost := ⟨⟨⟨[], false⟩, List.replicate 18 0⟩, [0, 0, 0]⟩
def lastAt (σ : Ost) (e : Ev) : Int := σ.last[e.task.toNat]?.getD 0
def oStep (devs : List Dev) (σ : Ost) (e : Ev) : Ost := if e.kind = 98 then ⟨(effF devs σ.x e.task.toNat e.ck e.dev e.reg).2, σ.last.set e.task.toNat (effF devs σ.x e.task.toNat e.ck e.dev e.reg).1⟩ else σ
def oBad (σ : Ost) (e : Ev) : Prop := e.kind ≠ 98 ∧ (e.err ≠ lastAt σ e ∨ (e.rv ≠ 0 ∧ (lastAt σ e ≠ 0 ∨ ¬ (e.ck = 114 ∨ e.ck = 119))))
instance (σ : Ost) (e : Ev) : Decidable (oBad σ e) := by unfold oBad; infer_instance
/-- behind k of them -/
def oSt (devs : List Dev) (L : List Ev) (k : Nat) : Ost := (L.take k).foldl (oStep devs) ost0
def badAt (devs : List Dev) (L : List Ev) (k : Nat) : Bool := match L[k]? with | some e => decide (oBad (oSt devs L k) e) | none => false
def firstB (p : Nat → Bool) : Nat → Option Nat
  | 0 => none
  | n + 1 => match firstB p n with | some k => some k | none => if p n then some n else none
theorem firstB_none {p : Nat → Bool} : ∀ {n : Nat}, (∀ j, j < n → p j = false) → firstB p n = none
  | 0, _ => rfl
  | n + 1, h => by
    have ih := firstB_none (n := n) fun j hj => h j (by omega)
    simp [firstB, ih, h n (by omega)]
theorem firstB_some {p : Nat → Bool} {k : Nat} (hk : ∀ j, j < k → p j = false) (hp : p k = true) : ∀ {n : Nat}, k < n → firstB p n = some k
  | 0, h => by omega
  | n + 1, h => by
    rcases Nat.lt_or_ge k n with h1 | h1
    · have ih := firstB_some hk hp (n := n) h1
      simp [firstB, ih]
    · obtain rfl : k = n := by omega
      simp [firstB, firstB_none hk, hp]
def ordK (devs : List Dev) (L : List Ev) : Option Nat := firstB (badAt devs L) L.length
def ordF (devs : List Dev) (evs : List Ev) : Int := match ordK devs (selE evs) with | some k => ((selIds evs)[k]?.getD 0 : Nat) | none => -1
theorem selE_len (evs : List Ev) : (selE evs).length = (selIds evs).length := by simp [selE]
theorem ordF_none {devs : List Dev} {evs : List Ev} (h : ∀ j, j < (selIds evs).length → badAt devs (selE evs) j = false) : ordF devs evs = -1 := by
  rw [ordF, ordK, firstB_none (by rw [selE_len]; exact h)]
theorem ordF_some {devs : List Dev} {evs : List Ev} {k i : Nat} (hi : (selIds evs)[k]? = some i) (h : ∀ j, j < k → badAt devs (selE evs) j = false) (hb : badAt devs (selE evs) k = true) : ordF devs evs = (i : Int) := by
  rw [ordF, ordK, firstB_some h hb (by rw [selE_len]; exact (List.getElem?_eq_some_iff.1 hi).1)]
  simp [hi]
theorem oSt_next {devs : List Dev} {L : List Ev} {k : Nat} {x : Ev} (h : L[k]? = some x) : oSt devs L (k + 1) = oStep devs (oSt devs L k) x := by
  rw [oSt, oSt, List.take_add_one, h, Option.toList_some, List.foldl_append]; rfl
theorem foldl_len (devs : List Dev) : ∀ (l : List Ev) (σ : Ost), σ.last.length = 3 ∧ σ.x.h.length = 18 → (l.foldl (oStep devs) σ).last.length = 3 ∧ (l.foldl (oStep devs) σ).x.h.length = 18
  | [], σ, h => h
  | e :: l, σ, h => by
    refine foldl_len devs l _ ?_
    unfold oStep
    split
    · exact ⟨by simpa using h.1, by rw [effF_len]; exact h.2⟩
    · exact h
theorem oSt_len (devs : List Dev) (L : List Ev) (k : Nat) : (oSt devs L k).last.length = 3 ∧ (oSt devs L k).x.h.length = 18 := foldl_len devs _ _ ⟨rfl, rfl⟩
theorem sel_task {e : Ev} (h : sel e = true) : 0 ≤ e.task ∧ e.task < 3 := by
  unfold sel at h
  simp only [Bool.and_eq_true, decide_eq_true_eq] at h
  exact h.2
theorem eff_mi (gx gc gm nd kd kn : Nat) (Ad An : Option Addr) (devs : List Dev) (x : Crs) (tk ck dev reg cv : Int) (w : World) (F : Nat → Prop) (hp : (CrsH gx gc gm (.slice Ad nd kd) (.slice An nd kn) x).sat F w) (hF : ∀ b, F b → b < w.heap.size)
    (hdev : RsR (slq ⟨w, fun b => b < w.heap.size ∧ ¬ F b⟩) (DevR (slq ⟨w, fun b => b < w.heap.size ∧ ¬ F b⟩)) 94 6 Ad nd devs) (hnd : nd = devs.length) (hnd6 : nd ≤ 6) (h0 : 0 ≤ tk) (h3 : tk < 3) (hl : x.h.length = 18) :
    Calls Tryz.prog 43 #[.pointer (some ⟨gx, 0, none⟩), .int .i64 tk, .agg #[.int .u8 ck, .int .i64 dev, .int .i64 reg, .int .u32 cv]] w (fun y w' => y = .returned (.int .i64 (effF devs x tk.toNat ck dev reg).1) ∧ ∃ F', (CrsH gx gc gm (.slice Ad nd kd) (.slice An nd kn) (effF devs x tk.toNat ck dev reg).2).sat F' w' ∧ Turns w w' F F') := by
  obtain ⟨t, rfl⟩ : ∃ t : Nat, tk = (t : Int) := ⟨tk.toNat, by omega⟩
  exact eff_m gx gc gm nd kd kn Ad An devs x t ck dev reg cv w F hp hF hdev hnd hnd6 (by omega) hl
theorem ev_call {w : World} {b o : Nat} {x : Ev} (h : ∀ f u, x.cells[f]? = some u → w.cell? ⟨b, o + f, none⟩ = some u) : ∀ j v, [Value.int .u8 x.ck, .int .i64 x.dev, .int .i64 x.reg, .int .u32 x.cv][j]? = some v → w.cell? ⟨b, o + 2 + j, none⟩ = some v := by
  intro j v hv
  rw [Nat.add_assoc]
  refine h (2 + j) v ?_
  rw [Ev.cells, cells2]
  match j, hv with
  | 0, hv => exact hv
  | 1, hv => exact hv
  | 2, hv => exact hv
  | 3, hv => exact hv
  | j + 4, hv => simp at hv
def iCells (l : List Int) : List Value := l.map (Value.int .i64)
theorem iCells_at {l : List Int} {i : Nat} {v : Int} (h : l[i]? = some v) : (iCells l)[i]? = some (.int .i64 v) := by rw [iCells, List.getElem?_map, h]; rfl
theorem iCells_set {l : List Int} {i : Nat} {v : Int} : (iCells l).set i (.int .i64 v) = iCells (l.set i v) := by rw [iCells, iCells, List.map_set]

def CallsOk (p0 : Piece) (A : Option Addr) (n : Nat) (evs : List Ev) (y : Value) (w w' : World) : Prop := ∃ g, y = .func (.func 66) #[] #[.pointer (some ⟨g, 0, none⟩)] ∧ ∀ q, p0.Le q → (fresh w w').Le q → ∀ b off, (0 < n → A = some ⟨b, off, none⟩) → Iter Tryz.prog 66 [.pointer (some ⟨g, 0, none⟩)] (idEncs b off (selIds evs)) q
theorem calls_ok (p0 : Piece) (A : Option Addr) (n c : Nat) (evs : List Ev) (w : World) (hs : EvS p0 A evs) (hn : n = evs.length) (hn2 : (n : Int) ≤ 9223372036854775806) : Calls Tryz.prog 42 #[.slice A n c] w (fun y w' => (∃ x, y = .returned x ∧ CallsOk p0 A n evs x w w') ∧ Below w.heap.size w w') := by
  refine XK.enter (vs := [.slice A n c]) Tryz.func42 rfl Tryz.ntmps42 (by simp) ?_
  refine XK.seq ?_

  refine XK.region ?_
  refine xk_box rfl (by decide) fun g1 => ?_
  refine xk_assign rfl (by decide) ?_
  refine XK.nilN ?_
  refine XK.seq ?_

  refine XK.region ?_
  refine xk_func (vf := []) (vc := [.pointer (some ⟨g1, 0, none⟩)]) rfl rfl (by decide) ?_
  refine xk_assign rfl (by decide) ?_
  refine XK.nilN ?_
  refine XK.ret ?_
  refine XK.norm ?_
  refine XK.still [] [0] [] (by simp) rfl (by decide) (by decide) fun q hq _ hfr => ?_
  refine XK.ret1 rfl rfl fun w1 st => ⟨⟨_, rfl, g1, rfl, fun q2 h0 hf b off hA => ?_⟩, st.below (by simp)⟩
  exact calls1_iter q2 g1 b off n c A evs hn hA ((RP.of_blk (o := 0) (v := .slice A n c) (hq 0 _ (by simp) rfl) rfl).le ((st.fresh_le (by simp) (hfr (by simp) (by simp))).trans' hf)) (hs.le h0) hn2

theorem order_S (s : Soc) (A1 A2 A3 A4 : Option Addr) (n1 k1 n2 k2 n3 k3 n4 k4 : Nat) (A : Option Addr) (n c : Nat) (evs : List Ev) (w : World) (hW : SocW w s A1 n1 A2 n2 A3 n3 A4 n4) (hchk : checkS s = 0) (hnd6 : n4 ≤ 6) (hs : EvS (all w) A evs) (hn : n = evs.length) (hn2 : (n : Int) ≤ 9223372036854775806) :
    Calls Tryz.prog 10 #[.agg #[.slice A1 n1 k1, .slice A2 n2 k2, .slice A3 n3 k3, .slice A4 n4 k4], .slice A n c] w (Rt (.tuple #[.int .i64 (ordF s.devs evs), .int .i64 0]) w) := by
  have hn4 := hW.len4
  refine XC.enter (vs := [.agg #[.slice A1 n1 k1, .slice A2 n2 k2, .slice A3 n3 k3, .slice A4 n4 k4], .slice A n c]) Tryz.func10 rfl Tryz.ntmps10 (by simp) (St.start w) ?_
  dsimp only [List.cons_append, List.nil_append]
  refine XC.seq ?_

  refine XC.regionW (by kernel_rfl) ?_
  refine xk_box rfl (by decide) fun g1 => ?_
  refine xk_alloc (cs := [.int .i64 0]) (zeroB_of (by kernel_rfl)) (by decide) fun g2 => ?_
  refine xk_alloc (cs := [.int .i64 0]) (zeroB_of (by kernel_rfl)) (by decide) fun g3 => ?_
  refine XC.endW ?_
  refine XC.norm ?_
  refine XC.seq ?_

  refine XC.regionW (by kernel_rfl) ?_
  refine xk_ldN 4 rfl ?_
  refine xk_callN (f := 41) (fi := []) (ca := []) (by kernel_rfl) rfl rfl (by decide) (NewOk s) (fun w1 st => new_ok s A1 A2 A3 A4 n1 k1 n2 k2 n3 k3 n4 k4 w1 (hW.le (st.started (by simp))) hchk) ?_
  rintro _ _ qn ⟨gc, gm, An, kn, rfl, rfl, _⟩ _
  have hnl : (needsG s).length = n4 := by rw [hn4]; simp [needsG]
  rw [hnl]
  dsimp only [List.cons_append, List.nil_append]
  refine xk_move rfl (by decide) ?_
  refine xk_extract rfl rfl (by decide) ?_
  refine xk_extract rfl rfl (by decide) ?_
  refine xk_assign rfl (by decide) ?_
  refine xk_assign rfl (by decide) ?_
  refine XC.endW ?_
  refine XC.norm ?_
  refine XC.seq ?_
  refine XC.seq ?_

  refine XC.regionW (by kernel_rfl) ?_
  refine xk_move rfl (by decide) ?_
  refine xk_neq rfl rfl (by decide) ?_
  refine XC.endW ?_
  refine XC.norm ?_
  refine XC.if_ rfl (fun h => ?_) (fun h => ?_)
  ·
    refine XC.seq ?_

    refine XC.regionW (by kernel_rfl) ?_
    refine xk_move rfl (by decide) ?_
    refine xk_st rfl rfl ?_; dsimp only [List.set]
    refine xk_st rfl rfl ?_; dsimp only [List.set]
    refine XC.endW ?_
    refine XC.norm ?_
    refine XC.ret ?_
    refine XC.norm ?_
    exact absurd rfl h
  ·
    refine XC.skip ?_
    refine XC.norm ?_
    refine XC.seq ?_

    refine XC.regionW (by kernel_rfl) ?_
    refine xk_field (off := 3) (by kernel_rfl) rfl (by decide) ?_
    refine xk_ld rfl ?_
    refine xk_move rfl (by decide) ?_
    refine xk_buildS (zs := [.slice none 0 0, .pointer none, .int .i64 0, .int .i64 0, .int .i64 0, .int .i64 0, .int .i64 0, .int .i64 0, .int .i64 0, .int .i64 0, .int .i64 0, .int .i64 0, .int .i64 0, .int .i64 0, .int .i64 0, .int .i64 0, .int .i64 0, .int .i64 0, .int .i64 0, .int .i64 0]) (L := [(0, 1), (1, 1), (2, 18)]) (zeroB_of (by kernel_rfl)) (by kernel_rfl) rfl (by simp [fillL, setN, Value.cells]; rfl) (by decide) ?_
    refine xk_alloc (cs := [.slice none 0 0, .pointer none, .int .i64 0, .int .i64 0, .int .i64 0, .int .i64 0, .int .i64 0, .int .i64 0, .int .i64 0, .int .i64 0, .int .i64 0, .int .i64 0, .int .i64 0, .int .i64 0, .int .i64 0, .int .i64 0, .int .i64 0, .int .i64 0, .int .i64 0, .int .i64 0]) (zeroB_of (by kernel_rfl)) (by decide) fun g4 => ?_
    (first | (refine xk_storeN 0 rfl rfl rfl (by kernel_rfl) (by simp [Value.cells, Value.oneCell']) (by simp [Value.cells]) ?_) | (refine xk_storeN 1 rfl rfl rfl (by kernel_rfl) (by simp [Value.cells, Value.oneCell']) (by simp [Value.cells]) ?_) | (refine xk_storeN 2 rfl rfl rfl (by kernel_rfl) (by simp [Value.cells, Value.oneCell']) (by simp [Value.cells]) ?_) | (refine xk_storeN 3 rfl rfl rfl (by kernel_rfl) (by simp [Value.cells, Value.oneCell']) (by simp [Value.cells]) ?_) | (refine xk_storeN 4 rfl rfl rfl (by kernel_rfl) (by simp [Value.cells, Value.oneCell']) (by simp [Value.cells]) ?_) | (refine xk_storeN 5 rfl rfl rfl (by kernel_rfl) (by simp [Value.cells, Value.oneCell']) (by simp [Value.cells]) ?_) | (refine xk_storeN 6 rfl rfl rfl (by kernel_rfl) (by simp [Value.cells, Value.oneCell']) (by simp [Value.cells]) ?_) | (refine xk_storeN 7 rfl rfl rfl (by kernel_rfl) (by simp [Value.cells, Value.oneCell']) (by simp [Value.cells]) ?_) | (refine xk_storeN 8 rfl rfl rfl (by kernel_rfl) (by simp [Value.cells, Value.oneCell']) (by simp [Value.cells]) ?_)); simp only [putN, Value.cells, List.set, List.take, List.drop, List.nil_append, List.append_nil, List.length_cons, List.length_nil, List.cons_append, Nat.reduceAdd]
    refine XC.endW ?_
    refine XC.norm ?_
    refine XC.seq ?_
    refine XK.weak (R' := [all w]) [0, 1, 2, 3, 5] rfl (by decide) (by simp) ?_
    refine XK.pair ?_
    refine XK.newFact (q := ∀ j, j < 0 → badAt s.devs (selE evs) j = false) (fun _ h => absurd h (Nat.not_lt_zero _)) ?_

    refine XC.regionW (by kernel_rfl) ?_
    refine xk_alloc (cs := [.int .i64 0, .int .i64 0, .int .i64 0]) (zeroB_of (by kernel_rfl)) (by decide) fun g5 => ?_
    refine XC.endW ?_
    refine XC.norm ?_
    refine XC.seq ?_
    refine XC.seq ?_

    refine XC.regionW (by kernel_rfl) ?_
    refine xk_move rfl (by decide) ?_
    refine xk_call [all w] (f := 42) (fi := []) (ca := []) (by kernel_rfl) rfl rfl (by decide) (by simp) (CallsOk (all w) A n evs) (fun w1 st => calls_ok (all w) A n c evs w1 hs hn hn2) ?_
    rintro _ w1 qc ⟨g6, rfl, hit'⟩ hf Lc _
    have Lc := Lc (all w) (by simp)
    have hs2 := hs.le Lc
    obtain ⟨b, off, hA⟩ : ∃ b off, 0 < n → A = some ⟨b, off, none⟩ := by
      rcases Nat.eq_zero_or_pos n with h0 | h0
      · exact ⟨0, 0, fun h => by omega⟩
      · obtain ⟨b, off, hA, _⟩ := hs.2 (by omega)
        exact ⟨b, off, fun _ => hA⟩
    have hit := hit' qc Lc hf b off hA
    clear hit' hf
    refine XC.endW ?_
    refine XC.norm ?_
    refine XC.block ?_
    refine XK.envS [(27, .func (.func 66) #[] #[.pointer (some ⟨g6, 0, none⟩)]), (9, .pointer (some ⟨g5, 0, none⟩)), (8, .pointer (some ⟨g4, 0, none⟩)), (5, .pointer (some ⟨g3, 0, none⟩)), (4, .pointer (some ⟨g2, 0, none⟩))] ?_
    refine XK.weak (R' := [qc, all w]) [2, 0, 3, 4, 1, 5] rfl (by decide) (by simp) ?_
    refine XC.range (gf := 66) (lb := [.pointer (some ⟨g6, 0, none⟩)]) (encs := idEncs b off (selIds evs)) (p := qc) rfl (by kernel_rfl) hit (by simp) (fun vs hvs => ?_) (by decide) (fun k => [CrsH g4 gc gm (.slice A4 n4 k4) (.slice An n4 kn) ((oSt s.devs (selE evs) k).x), HP.blk g5 117 (iCells (oSt s.devs (selE evs) k).last), HP.blk g3 35 [.int .i64 0], HP.blk g2 3 [.int .i64 0], HP.pure (∀ j, j < k → badAt s.devs (selE evs) j = false)]) (fun _ => [HP.blk g3 35 [.int .i64 0], HP.blk g2 3 [.int .i64 (ordF s.devs evs)]])
      (fun k vs e1 H1 => ∃ i : Nat, (selIds evs)[k]? = some i ∧ e1 = [(11, evPtr b off i), (10, .int .i64 (i : Int)), (9, .pointer (some ⟨g5, 0, none⟩)), (8, .pointer (some ⟨g4, 0, none⟩)), (5, .pointer (some ⟨g3, 0, none⟩)), (4, .pointer (some ⟨g2, 0, none⟩))] ∧ H1 = [CrsH g4 gc gm (.slice A4 n4 k4) (.slice An n4 kn) ((oSt s.devs (selE evs) k).x), HP.blk g5 117 (iCells (oSt s.devs (selE evs) k).last), HP.blk g3 35 [.int .i64 0], HP.blk g2 3 [.int .i64 0], HP.pure (∀ j, j < k → badAt s.devs (selE evs) j = false)]) rfl ?_ ?_ ?_ ?_
    · simp only [idEncs, List.mem_map] at hvs
      obtain ⟨i, _, rfl⟩ := hvs
      rfl
    ·
      intro l2 k vs W1 q X hvs hsm
      obtain ⟨i, hik, rfl⟩ := idEncs_get hvs
      dsimp only [bindE, List.cons_append, List.nil_append]
      refine XC.seq ?_

      refine XC.regionW (by kernel_rfl) ?_
      refine xk_assign rfl (by decide) ?_
      refine XC.endW ?_
      refine XC.norm ?_

      refine XC.regionW (by kernel_rfl) ?_
      refine xk_assign rfl (by decide) ?_
      refine XC.endW ?_
      refine XC.norm ?_
      refine XK.envS [(11, evPtr b off i), (10, .int .i64 (i : Int)), (9, .pointer (some ⟨g5, 0, none⟩)), (8, .pointer (some ⟨g4, 0, none⟩)), (5, .pointer (some ⟨g3, 0, none⟩)), (4, .pointer (some ⟨g2, 0, none⟩))] ?_
      exact XC.assigned (H1 := [CrsH g4 gc gm (.slice A4 n4 k4) (.slice An n4 kn) ((oSt s.devs (selE evs) k).x), HP.blk g5 117 (iCells (oSt s.devs (selE evs) k).last), HP.blk g3 35 [.int .i64 0], HP.blk g2 3 [.int .i64 0], HP.pure (∀ j, j < k → badAt s.devs (selE evs) j = false)]) ⟨i, hik, rfl, rfl⟩
    ·
      rintro l2 k vs W1 q X _ _ hvs hsm ⟨i, hik, rfl, rfl⟩
      obtain ⟨x, hev, hxk, hsel⟩ := selE_get hik
      have htk := sel_task hsel
      have hin : i < n := by rw [hn]; exact (List.getElem?_eq_some_iff.1 hev).1
      obtain rfl := hA (by omega)
      obtain ⟨hz, hcs⟩ := hs2.ev hev
      have hl3 := (oSt_len s.devs (selE evs) k).1
      obtain ⟨lv, hlv⟩ : ∃ v, (oSt s.devs (selE evs) k).last[x.task.toNat]? = some v := ⟨_, List.getElem?_eq_getElem (by omega)⟩
      have hla : lastAt (oSt s.devs (selE evs) k) x = lv := by rw [lastAt, hlv]; rfl
      dsimp only [List.cons_append, List.nil_append, evPtr]
      refine XC.block ?_
      refine XC.seq ?_
      refine XC.seq ?_

      refine XC.regionW (by kernel_rfl) ?_
      refine xk_move rfl (by decide) ?_
      refine xk_nilC rfl (by decide) ?_
      refine xk_field (off := 0) (by kernel_rfl) rfl (by decide) ?_
      refine xk_load (by kernel_rfl) rfl (Rd.ro (p := qc) (by simp) hz (hcs 0 _ rfl)) (by decide) ?_
      refine xk_eql rfl rfl (by decide) ?_
      refine XC.endW ?_
      refine XC.norm ?_
      refine XC.if_ rfl (fun hk98 => ?_) (fun hk98 => ?_)
      ·
        refine XC.seq ?_

        refine XC.draw1 [qc, all w, q] [HP.blk g5 117 (iCells (oSt s.devs (selE evs) k).last), HP.blk g3 35 [.int .i64 0], HP.blk g2 3 [.int .i64 0], HP.pure (∀ j, j < k → badAt s.devs (selE evs) j = false), X] 13 (by kernel_rfl) (by kernel_rfl) ?_
        simp only [List.take_succ_cons, List.take_zero, List.drop_succ_cons, List.drop_zero]
        refine XA.do_ 0 rfl rfl rfl (by decide) (does_move rfl) (by kernel_rfl) (fun _ _ _ h => h) (fun _ h => h.tail) ?_
        refine XA.do_ 1 rfl rfl rfl (by decide) (does_nilC rfl) (by kernel_rfl) (fun _ _ _ h => h) (fun _ h => h.tail) ?_
        refine XA.do_ 2 rfl rfl rfl (by decide) (does_field (off := 1) (by kernel_rfl) rfl) (by kernel_rfl) (fun _ _ _ h => h) (fun _ h => h.tail) ?_
        refine XA.do_ 3 rfl rfl rfl (by decide) (does_load (by kernel_rfl) rfl (Rd.ro (p := qc) (by simp) hz (hcs 1 _ rfl))) (by kernel_rfl) (fun _ _ _ h => h) (fun _ h => h.tail) ?_
        refine XA.do_ 4 rfl rfl rfl (by decide) (does_move rfl) (by kernel_rfl) (fun _ _ _ h => h) (fun _ h => h.tail) ?_
        refine XA.do_ 5 rfl rfl rfl (by decide) (does_nilC rfl) (by kernel_rfl) (fun _ _ _ h => h) (fun _ h => h.tail) ?_
        refine XA.do_ 6 rfl rfl rfl (by decide) (does_field (off := 1) (by kernel_rfl) rfl) (by kernel_rfl) (fun _ _ _ h => h) (fun _ h => h.tail) ?_
        refine XA.do_ 7 rfl rfl rfl (by decide) (does_load (by kernel_rfl) rfl (Rd.ro (p := qc) (by simp) hz (hcs 1 _ rfl))) (by kernel_rfl) (fun _ _ _ h => h) (fun _ h => h.tail) ?_
        refine XA.do_ 8 rfl rfl rfl (by decide) (does_move rfl) (by kernel_rfl) (fun _ _ _ h => h) (fun _ h => h.tail) ?_
        refine XA.do_ 9 rfl rfl rfl (by decide) (does_nilC rfl) (by kernel_rfl) (fun _ _ _ h => h) (fun _ h => h.tail) ?_
        refine XA.do_ 10 rfl rfl rfl (by decide) (does_field (off := 2) (by kernel_rfl) rfl) (by kernel_rfl) (fun _ _ _ h => h) (fun _ h => h.tail) ?_
        refine XA.do_ 11 rfl rfl rfl (by decide) (does_loadN 4 (by kernel_rfl) rfl (RdN.of (vs := [.int .u8 x.ck, .int .i64 x.dev, .int .i64 x.reg, .int .u32 x.cv]) fun f v hf => Rd.ro (p := qc) (by simp) hz (ev_call hcs f v hf)) rfl) (by kernel_rfl) (fun _ _ _ h => h) (fun _ h => h.tail) ?_
        refine XA.next 12 rfl (by kernel_rfl) ?_
        refine xk_callE (f := 43) (fi := []) (ca := []) 0 (CrsH g4 gc gm (.slice A4 n4 k4) (.slice An n4 kn) ((effF s.devs (oSt s.devs (selE evs) k).x x.task.toNat x.ck x.dev x.reg).2)) (by kernel_rfl) rfl rfl rfl ⟨by decide, rfl⟩ (fun w1 F1 st hp1 hF1 hle => eff_mi g4 gc gm n4 k4 kn A4 An s.devs _ x.task x.ck x.dev x.reg x.cv w1 F1 hp1 hF1 (hW.dev.mono (slq_le (hle (all w) (by simp))) (fun _ _ h => h.mono (slq_le (hle (all w) (by simp))))) hn4 hnd6 htk.1 htk.2 (oSt_len _ _ _).2) ?_
        dsimp only [List.set]
        refine XK.nil ?_; refine XK.thenN ?_; refine XA.back (fun _ h => h.tail) ?_
        refine XA.done (by kernel_rfl) ?_
        refine XI.start ?_
        refine XI.op (by kernel_rfl) ?_; refine xk_atA x.task.toNat x.task.toNat (n := 3) (el := 35) (sz := 1) (by kernel_rfl) (by kernel_rfl) rfl rfl (by omega) (by omega) (by omega) (by decide) ?_; refine XI.back ?_
        refine XI.op (by kernel_rfl) ?_; refine xk_store 1 rfl (by kernel_rfl) rfl rfl rfl (by rw [iCells, List.length_map, (oSt_len _ _ _).1]; omega) ?_; dsimp only [List.set]; rw [iCells_set]; refine XI.back ?_
        refine XI.nil ?_
        refine XC.norm ?_
        refine XC.exit ?_
        refine XC.norm ?_
        have hnx : oSt s.devs (selE evs) (k + 1) = oStep s.devs (oSt s.devs (selE evs) k) x := oSt_next hxk
        have hb : badAt s.devs (selE evs) k = false := by rw [badAt, hxk]; simp [oBad, hk98]
        refine XK.fact 4 rfl fun hfk => ?_
        refine XK.setFact 4 (q := ∀ j, j < k + 1 → badAt s.devs (selE evs) j = false) rfl (fun j hj => by
          rcases Nat.lt_or_ge j k with h1 | h1
          · exact hfk j h1
          · obtain rfl : j = k := by omega
            exact hb) ?_
        dsimp only [List.set]
        rw [hnx, oStep]
        rw [if_pos hk98]
        exact XC.bodyN
      ·
        refine XC.skip ?_
        refine XC.norm ?_
        refine XC.seq ?_

        refine XC.regionW (by kernel_rfl) ?_
        refine xk_move rfl (by decide) ?_
        refine xk_nilC rfl (by decide) ?_
        refine xk_field (off := 1) (by kernel_rfl) rfl (by decide) ?_
        refine xk_load (by kernel_rfl) rfl (Rd.ro (p := qc) (by simp) hz (hcs 1 _ rfl)) (by decide) ?_
        refine xk_atA x.task.toNat x.task.toNat (n := 3) (el := 35) (sz := 1) (by kernel_rfl) (by kernel_rfl) rfl rfl (by omega) (by omega) (by omega) (by decide) ?_
        refine xk_load (by kernel_rfl) rfl (Rd.blk 1 rfl (iCells_at hlv)) (by decide) ?_
        refine xk_neq rfl rfl (by decide) ?_
        refine xk_assign rfl (by decide) ?_
        refine XC.endW ?_
        refine XC.norm ?_
        refine XC.cutB 13 (x.ck = 114 ∨ x.ck = 119) ?_ ?_
        · skip

          refine XC.regionW (by kernel_rfl) ?_
          refine xk_move rfl (by decide) ?_
          refine xk_nilC rfl (by decide) ?_
          refine xk_field (off := 2) (by kernel_rfl) rfl (by decide) ?_
          refine xk_field (off := 0) (by kernel_rfl) rfl (by decide) ?_
          refine xk_load (by kernel_rfl) rfl (Rd.ro (p := qc) (by simp) hz (hcs 2 _ rfl)) (by decide) ?_
          refine xk_eql rfl rfl (by decide) ?_
          refine xk_move rfl (by decide) ?_
          (first | refine xk_split (t := 62) rfl (fun hg => ?_) (fun hg => ?_) | refine xk_splitB (t := 62) rfl (fun hg => ?_) (fun hg => ?_))
          ·
            refine xk_guardF rfl rfl rfl (by decide) ?_
            refine xk_guardF rfl rfl rfl (by decide) ?_
            refine xk_guardF rfl rfl rfl (by decide) ?_
            refine xk_guardF rfl rfl rfl (by decide) ?_
            refine xk_guardF rfl rfl rfl (by decide) ?_
            refine xk_guardF rfl rfl rfl (by decide) ?_
            (first | refine xk_pickT rfl rfl (by decide) ?_ | refine xk_pickF rfl rfl (by decide) ?_)
            refine xk_assign rfl (by decide) ?_
            refine XC.endW ?_
            refine XC.norm ?_
            exact XC.meetB (by repeat (first | exact trivial | refine ⟨rfl, ?_⟩)) (by first | (refine get_iff rfl ?_; omega) | (refine get_iff rfl ?_; simp_all; done) | (refine get_false rfl ?_; first | omega | (simp_all; done)) | (refine get_true rfl ?_; first | omega | (simp_all; done)) | (refine get_bool rfl ?_; simp_all; done) | (refine get_iff rfl ⟨fun hh => ?_, fun hh => ?_⟩ <;> first | omega | (simp_all; done) | (simp_all; omega)) | (exfalso; omega))
          ·
            refine xk_guardT rfl rfl ?_; refine xk_move rfl (by decide) ?_
            refine xk_guardT rfl rfl ?_; refine xk_nilC rfl (by decide) ?_
            refine xk_guardT rfl rfl ?_; refine xk_field (off := 2) (by kernel_rfl) rfl (by decide) ?_
            refine xk_guardT rfl rfl ?_; refine xk_field (off := 0) (by kernel_rfl) rfl (by decide) ?_
            refine xk_guardT rfl rfl ?_; refine xk_load (by kernel_rfl) rfl (Rd.ro (p := qc) (by simp) hz (hcs 2 _ rfl)) (by decide) ?_
            refine xk_guardT rfl rfl ?_; refine xk_eql rfl rfl (by decide) ?_
            (first | refine xk_pickT rfl rfl (by decide) ?_ | refine xk_pickF rfl rfl (by decide) ?_)
            refine xk_assign rfl (by decide) ?_
            refine XC.endW ?_
            refine XC.norm ?_
            exact XC.meetB (by repeat (first | exact trivial | refine ⟨rfl, ?_⟩)) (by first | (refine get_iff rfl ?_; omega) | (refine get_iff rfl ?_; simp_all; done) | (refine get_false rfl ?_; first | omega | (simp_all; done)) | (refine get_true rfl ?_; first | omega | (simp_all; done)) | (refine get_bool rfl ?_; simp_all; done) | (refine get_iff rfl ⟨fun hh => ?_, fun hh => ?_⟩ <;> first | omega | (simp_all; done) | (simp_all; omega)) | (exfalso; omega))
        refine XC.cutB 96 (x.err ≠ lastAt (oSt s.devs (selE evs) k) x ∨ (x.rv ≠ 0 ∧ (lastAt (oSt s.devs (selE evs) k) x ≠ 0 ∨ ¬ (x.ck = 114 ∨ x.ck = 119)))) ?_ ?_
        · skip

          refine XC.draw 11 (by kernel_rfl) (by kernel_rfl) ?_
          simp only [List.take_succ_cons, List.take_zero, List.drop_succ_cons, List.drop_zero]
          refine XA.dA 0 rfl rfl rfl (does_move rfl) ?_
          refine XA.dA 1 rfl rfl rfl (does_nilC rfl) ?_
          refine XA.dA 2 rfl rfl rfl (does_field (off := 6) (by kernel_rfl) rfl) ?_
          refine XA.dA 3 rfl rfl rfl (does_field (off := 0) (by kernel_rfl) rfl) ?_
          refine XA.dA 4 rfl rfl rfl (does_load (by kernel_rfl) rfl (Rd.ro (p := qc) (by simp) hz (hcs 6 _ rfl))) ?_
          refine XA.dA 5 rfl rfl rfl (does_move rfl) ?_
          refine XA.dA 6 rfl rfl rfl (does_nilC rfl) ?_
          refine XA.dA 7 rfl rfl rfl (does_field (off := 1) (by kernel_rfl) rfl) ?_
          refine XA.dA 8 rfl rfl rfl (does_load (by kernel_rfl) rfl (Rd.ro (p := qc) (by simp) hz (hcs 1 _ rfl))) ?_
          refine XA.dA 9 rfl rfl rfl (does_atA x.task.toNat x.task.toNat (n := 3) (el := 35) (sz := 1) (by kernel_rfl) (by kernel_rfl) rfl rfl (by omega) (by omega) (by omega)) ?_
          refine XA.dA 10 rfl rfl rfl (does_load (by kernel_rfl) rfl (Rd.blk 1 rfl (iCells_at hlv))) ?_
          refine XA.done (by kernel_rfl) ?_
          refine XI.start ?_
          refine XI.op (by kernel_rfl) ?_; refine xk_neq rfl rfl (by decide) ?_; refine XI.back ?_
          refine XI.op (by kernel_rfl) ?_; refine xk_move rfl (by decide) ?_; refine XI.back ?_
          (first | refine xk_split (t := 82) rfl (fun hg => ?_) (fun hg => ?_) | refine xk_splitB (t := 82) rfl (fun hg => ?_) (fun hg => ?_))
          ·
            refine XI.op (by kernel_rfl) ?_; refine xk_guardF rfl rfl rfl (by decide) ?_; refine XI.back ?_
            refine XI.op (by kernel_rfl) ?_; refine xk_guardF rfl rfl rfl (by decide) ?_; refine XI.back ?_
            refine XI.op (by kernel_rfl) ?_; refine xk_guardF rfl rfl rfl (by decide) ?_; refine XI.back ?_
            refine XI.op (by kernel_rfl) ?_; refine xk_guardF rfl rfl rfl (by decide) ?_; refine XI.back ?_
            refine XI.op (by kernel_rfl) ?_; refine xk_guardF rfl rfl rfl (by decide) ?_; refine XI.back ?_
            refine XI.op (by kernel_rfl) ?_; refine xk_guardF rfl rfl rfl (by decide) ?_; refine XI.back ?_
            refine XI.op (by kernel_rfl) ?_; refine xk_guardF rfl rfl rfl (by decide) ?_; refine XI.back ?_
            refine XI.op (by kernel_rfl) ?_; refine xk_guardU rfl rfl (by decide) ?_; refine XI.back ?_
            refine XI.op (by kernel_rfl) ?_; refine xk_guardU rfl rfl (by decide) ?_; refine XI.back ?_
            refine XI.op (by kernel_rfl) ?_; refine xk_guardU rfl rfl (by decide) ?_; refine XI.back ?_
            refine XI.op (by kernel_rfl) ?_; refine xk_guardU rfl rfl (by decide) ?_; refine XI.back ?_
            refine XI.op (by kernel_rfl) ?_; refine xk_guardU rfl rfl (by decide) ?_; refine XI.back ?_
            refine XI.op (by kernel_rfl) ?_; refine xk_guardF rfl rfl rfl (by decide) ?_; refine XI.back ?_
            refine XI.op (by kernel_rfl) ?_; (first | refine xk_pickT rfl rfl (by decide) ?_ | refine xk_pickF rfl rfl (by decide) ?_); refine XI.back ?_
            refine XI.nil ?_
            refine XC.norm ?_
            exact XC.meetB (by repeat (first | exact trivial | refine ⟨rfl, ?_⟩)) (by first | (refine get_iff rfl ?_; omega) | (refine get_iff rfl ?_; simp_all; done) | (refine get_false rfl ?_; first | omega | (simp_all; done)) | (refine get_true rfl ?_; first | omega | (simp_all; done)) | (refine get_bool rfl ?_; simp_all; done) | (refine get_iff rfl ⟨fun hh => ?_, fun hh => ?_⟩ <;> first | omega | (simp_all; done) | (simp_all; omega)) | (exfalso; omega))
          ·
            refine XI.op (by kernel_rfl) ?_; refine xk_guardT rfl rfl ?_; refine xk_move rfl (by decide) ?_; refine XI.back ?_
            refine XI.op (by kernel_rfl) ?_; refine xk_guardT rfl rfl ?_; refine xk_nilC rfl (by decide) ?_; refine XI.back ?_
            refine XI.op (by kernel_rfl) ?_; refine xk_guardT rfl rfl ?_; refine xk_field (off := 6) (by kernel_rfl) rfl (by decide) ?_; refine XI.back ?_
            refine XI.op (by kernel_rfl) ?_; refine xk_guardT rfl rfl ?_; refine xk_field (off := 1) (by kernel_rfl) rfl (by decide) ?_; refine XI.back ?_
            refine XI.op (by kernel_rfl) ?_; refine xk_guardT rfl rfl ?_; refine xk_load (by kernel_rfl) rfl (Rd.ro (p := qc) (by simp) hz (hcs 7 _ rfl)) (by decide) ?_; refine XI.back ?_
            refine XI.op (by kernel_rfl) ?_; refine xk_guardT rfl rfl ?_; refine xk_neq rfl rfl (by decide) ?_; refine XI.back ?_
            refine XI.op (by kernel_rfl) ?_; refine xk_guardT rfl rfl ?_; refine xk_move rfl (by decide) ?_; refine XI.back ?_
            (first | refine xk_split (t := 89) rfl (fun hg => ?_) (fun hg => ?_) | refine xk_splitB (t := 89) rfl (fun hg => ?_) (fun hg => ?_))
            ·
              refine XI.op (by kernel_rfl) ?_; refine xk_guardT rfl rfl ?_; refine xk_move rfl (by decide) ?_; refine XI.back ?_
              refine XI.op (by kernel_rfl) ?_; refine xk_guardT rfl rfl ?_; refine xk_move rfl (by decide) ?_; refine XI.back ?_
              (first | refine xk_split (t := 91) rfl (fun hg => ?_) (fun hg => ?_) | refine xk_splitB (t := 91) rfl (fun hg => ?_) (fun hg => ?_))
              ·
                refine XI.op (by kernel_rfl) ?_; refine xk_guardF rfl rfl rfl (by decide) ?_; refine XI.back ?_
                refine XI.op (by kernel_rfl) ?_; refine xk_guardF rfl rfl rfl (by decide) ?_; refine XI.back ?_
                refine XI.op (by kernel_rfl) ?_; refine xk_guardT rfl rfl ?_; (first | refine xk_pickT rfl rfl (by decide) ?_ | refine xk_pickF rfl rfl (by decide) ?_); refine XI.back ?_
                refine XI.op (by kernel_rfl) ?_; refine xk_guardT rfl rfl ?_; (first | refine xk_pickT rfl rfl (by decide) ?_ | refine xk_pickF rfl rfl (by decide) ?_); refine XI.back ?_
                refine XI.op (by kernel_rfl) ?_; (first | refine xk_pickT rfl rfl (by decide) ?_ | refine xk_pickF rfl rfl (by decide) ?_); refine XI.back ?_
                refine XI.nil ?_
                refine XC.norm ?_
                exact XC.meetB (by repeat (first | exact trivial | refine ⟨rfl, ?_⟩)) (by first | (refine get_iff rfl ?_; omega) | (refine get_iff rfl ?_; simp_all; done) | (refine get_false rfl ?_; first | omega | (simp_all; done)) | (refine get_true rfl ?_; first | omega | (simp_all; done)) | (refine get_bool rfl ?_; simp_all; done) | (refine get_iff rfl ⟨fun hh => ?_, fun hh => ?_⟩ <;> first | omega | (simp_all; done) | (simp_all; omega)) | (exfalso; omega))
              ·
                refine XI.op (by kernel_rfl) ?_; refine xk_guardT rfl rfl ?_; refine xk_move rfl (by decide) ?_; refine XI.back ?_
                refine XI.op (by kernel_rfl) ?_; refine xk_guardT rfl rfl ?_; (first | refine xk_notD rfl (by decide) ?_ | refine xk_not rfl (by decide) ?_); refine XI.back ?_
                refine XI.op (by kernel_rfl) ?_; refine xk_guardT rfl rfl ?_; (first | refine xk_pickT rfl rfl (by decide) ?_ | refine xk_pickF rfl rfl (by decide) ?_); refine XI.back ?_
                refine XI.op (by kernel_rfl) ?_; refine xk_guardT rfl rfl ?_; (first | refine xk_pickT rfl rfl (by decide) ?_ | refine xk_pickF rfl rfl (by decide) ?_); refine XI.back ?_
                refine XI.op (by kernel_rfl) ?_; (first | refine xk_pickT rfl rfl (by decide) ?_ | refine xk_pickF rfl rfl (by decide) ?_); refine XI.back ?_
                refine XI.nil ?_
                refine XC.norm ?_
                exact XC.meetB (by repeat (first | exact trivial | refine ⟨rfl, ?_⟩)) (by first | (refine get_iff rfl ?_; omega) | (refine get_iff rfl ?_; simp_all; done) | (refine get_false rfl ?_; first | omega | (simp_all; done)) | (refine get_true rfl ?_; first | omega | (simp_all; done)) | (refine get_bool rfl ?_; simp_all; done) | (refine get_iff rfl ⟨fun hh => ?_, fun hh => ?_⟩ <;> first | omega | (simp_all; done) | (simp_all; omega)) | (exfalso; omega))
            ·
              refine XI.op (by kernel_rfl) ?_; refine xk_guardF rfl rfl rfl (by decide) ?_; refine XI.back ?_
              refine XI.op (by kernel_rfl) ?_; refine xk_guardF rfl rfl rfl (by decide) ?_; refine XI.back ?_
              refine XI.op (by kernel_rfl) ?_; refine xk_guardU rfl rfl (by decide) ?_; refine XI.back ?_
              refine XI.op (by kernel_rfl) ?_; refine xk_guardU rfl rfl (by decide) ?_; refine XI.back ?_
              refine XI.op (by kernel_rfl) ?_; refine xk_guardF rfl rfl rfl (by decide) ?_; refine XI.back ?_
              refine XI.op (by kernel_rfl) ?_; refine xk_guardT rfl rfl ?_; (first | refine xk_pickT rfl rfl (by decide) ?_ | refine xk_pickF rfl rfl (by decide) ?_); refine XI.back ?_
              refine XI.op (by kernel_rfl) ?_; (first | refine xk_pickT rfl rfl (by decide) ?_ | refine xk_pickF rfl rfl (by decide) ?_); refine XI.back ?_
              refine XI.nil ?_
              refine XC.norm ?_
              exact XC.meetB (by repeat (first | exact trivial | refine ⟨rfl, ?_⟩)) (by first | (refine get_iff rfl ?_; omega) | (refine get_iff rfl ?_; simp_all; done) | (refine get_false rfl ?_; first | omega | (simp_all; done)) | (refine get_true rfl ?_; first | omega | (simp_all; done)) | (refine get_bool rfl ?_; simp_all; done) | (refine get_iff rfl ⟨fun hh => ?_, fun hh => ?_⟩ <;> first | omega | (simp_all; done) | (simp_all; omega)) | (exfalso; omega))
        refine XC.if_ rfl (fun hbad => ?_) (fun hbad => ?_)
        ·
          refine XC.seq ?_

          refine XC.regionW (by kernel_rfl) ?_
          refine xk_move rfl (by decide) ?_
          refine xk_st rfl rfl ?_; dsimp only [List.set]
          refine xk_st rfl rfl ?_; dsimp only [List.set]
          refine XC.endW ?_
          refine XC.norm ?_
          refine XC.ret ?_
          refine XC.norm ?_
          refine XK.fact 4 rfl fun hfk => ?_
          have hof : ordF s.devs evs = (i : Int) := ordF_some hik hfk (by rw [badAt, hxk]; exact decide_eq_true ⟨hk98, hbad⟩)
          rw [← hof]
          refine XK.weak [2, 3, 5] rfl (by decide) (fun _ hp => hp) ?_
          exact XC.bodyR
        ·
          refine XC.skip ?_
          refine XC.norm ?_
          have hnx : oSt s.devs (selE evs) (k + 1) = oStep s.devs (oSt s.devs (selE evs) k) x := oSt_next hxk
          have hb : badAt s.devs (selE evs) k = false := by rw [badAt, hxk]; exact decide_eq_false fun h => hbad h.2
          refine XK.fact 4 rfl fun hfk => ?_
          refine XK.setFact 4 (q := ∀ j, j < k + 1 → badAt s.devs (selE evs) j = false) rfl (fun j hj => by
            rcases Nat.lt_or_ge j k with h1 | h1
            · exact hfk j h1
            · obtain rfl : j = k := by omega
              exact hb) ?_
          dsimp only [List.set]
          rw [hnx, oStep]
          rw [if_neg hk98]
          exact XC.bodyN
    rotate_left
    ·
      intro D k hk
      dsimp only [List.cons_append, List.nil_append]
      refine XC.ret ?_
      refine XC.norm ?_
      exact XC.retC2 (Hs := [HP.blk g3 35 [.int .i64 0], HP.blk g2 3 [.int .i64 (ordF s.devs evs)]]) rfl (by kernel_rfl) (by kernel_rfl) rfl rfl (Rd.blk 1 rfl rfl) (Rd.blk 0 rfl rfl) fun w1 st => ⟨rfl, st.below (by simp)⟩
    intro D
    dsimp only [List.cons_append, List.nil_append]
    refine XC.norm ?_
    refine XK.fact 4 rfl fun hfk => ?_
    have hof : ordF s.devs evs = -1 := ordF_none fun j hj => hfk j (by simpa [idEncs] using hj)
    rw [hof]
    refine XC.seq ?_

    refine XC.regionW (by kernel_rfl) ?_
    refine xk_st rfl rfl ?_; dsimp only [List.set]
    refine xk_st rfl rfl ?_; dsimp only [List.set]
    refine XC.endW ?_
    refine XC.norm ?_
    refine XC.ret ?_
    refine XC.norm ?_
    exact XC.retC2 (Hs := [CrsH g4 gc gm (.slice A4 n4 k4) (.slice An n4 kn) ((oSt s.devs (selE evs) (idEncs b off (selIds evs)).length).x), HP.blk g5 117 (iCells (oSt s.devs (selE evs) (idEncs b off (selIds evs)).length).last), HP.blk g3 35 [.int .i64 0], HP.blk g2 3 [.int .i64 (-1)], HP.pure (∀ j, j < (idEncs b off (selIds evs)).length → badAt s.devs (selE evs) j = false)]) rfl (by kernel_rfl) (by kernel_rfl) rfl rfl (Rd.blk 3 rfl rfl) (Rd.blk 2 rfl rfl) fun w1 st => ⟨rfl, st.below (by simp)⟩

end Go.Proofs.YtbgibbbggajgaaaGreat
