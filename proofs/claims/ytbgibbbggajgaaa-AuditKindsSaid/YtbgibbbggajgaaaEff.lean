/- audit: the effect of a task's call. -/
import Derived.Test.YtbgibbbggajgaaaCount
import Derived.Test.YtbgibbbggajgaaaCallE
import Derived.Test.YtbgibbbggajgaaaSocQ
import Derived.Test.YtbgibbbggajgaaaDrawG
import Derived.Test.YtbgibbbggajgaaaMaybe
namespace Go.Proofs.Ytbgibbbggajgaaa
set_option linter.all false
open Go.RowKit
/-- what calls come to, in plain words -/
structure Crs where
  c : Cn
  h : List Int
def hAt (h : List Int) (t d : Nat) : Int := h[t * 6 + d]?.getD 0
def regsN (devs : List Dev) (d : Nat) : Nat := (devs[d]?.map (·.regs.length)).getD 0
def effF (devs : List Dev) (x : Crs) (t : Nat) (ck dev reg : Int) : Int × Crs :=
  if ck = 103 then ((cget devs.length x.c dev).1, ⟨(cget devs.length x.c dev).2, if (cget devs.length x.c dev).1 = 0 then x.h.set (t * 6 + dev.toNat) (IntKind.i64.wrap (hAt x.h t dev.toNat + 1)) else x.h⟩)
  else if ck = 112 then (if ¬ (0 ≤ dev ∧ dev < devs.length) then (4, x) else if hAt x.h t dev.toNat = 0 then (6, x) else
    ((cput devs.length x.c dev).1, ⟨(cput devs.length x.c dev).2, if (cput devs.length x.c dev).1 = 0 then x.h.set (t * 6 + dev.toNat) (IntKind.i64.wrap (hAt x.h t dev.toNat - 1)) else x.h⟩))
  else if ck = 115 then ((csus x.c).1, ⟨(csus x.c).2, x.h⟩)
  else if ck = 109 then ((cres x.c).1, ⟨(cres x.c).2, x.h⟩)
  else if ck = 114 ∨ ck = 119 then (if ¬ (0 ≤ dev ∧ dev < devs.length) ∨ reg < 0 ∨ (regsN devs dev.toNat : Int) ≤ reg then (4, x) else if hAt x.h t dev.toNat = 0 ∨ x.c.asl = true then (6, x) else (0, x))
  else (0, x)
theorem effF_len {devs : List Dev} {x : Crs} {t : Nat} {ck dev reg : Int} : (effF devs x t ck dev reg).2.h.length = x.h.length := by
  unfold effF
  repeat (split <;> try (simp only [List.length_set]; done))
  all_goals first | rfl | (dsimp only; split <;> simp)
theorem cget_known {nd : Nat} {c : Cn} {dev : Int} (h : (cget nd c dev).1 = 0) : 0 ≤ dev ∧ dev < nd := by
  unfold cget at h
  by_cases h1 : c.asl = true
  · rw [if_pos h1] at h; cases h
  · rw [if_neg h1] at h
    by_cases h2 : 0 ≤ dev ∧ dev < nd
    · exact h2
    · rw [if_pos h2] at h; cases h
/-- .. and where it lies -/
def hCells (h : List Int) : List Value := h.map (Value.int .i64)
theorem cells2 {a b : Value} {l : List Value} {i : Nat} : (a :: b :: l)[2 + i]? = l[i]? := by rw [Nat.add_comm]; rfl
theorem set2 {a b v : Value} {l : List Value} {i : Nat} : (a :: b :: l).set (2 + i) v = a :: b :: l.set i v := by rw [Nat.add_comm]; rfl
theorem hcell {a b : Value} {h : List Int} {t d : Nat} {v : Int} (hv : h[t * 6 + d]? = some v) : (a :: b :: hCells h)[2 + t * 6 + d]? = some (.int .i64 v) := by rw [Nat.add_assoc, cells2, hCells, List.getElem?_map, hv]; rfl
theorem hset {a b : Value} {h : List Int} {t d : Nat} {v : Int} : (a :: b :: hCells h).set (2 + t * 6 + d) (.int .i64 v) = a :: b :: hCells (h.set (t * 6 + d) v) := by rw [Nat.add_assoc, set2, hCells, hCells, List.map_set]
def CrsH (gx gc gm : Nat) (Vd Vn : Value) (x : Crs) : HP := HP.many [HP.blk gx 124 (Vd :: .pointer (some ⟨gc, 0, none⟩) :: hCells x.h), CntH gc gm Vn x.c]
theorem CntH.roc {gc gm : Nat} {v : Value} {c : Cn} {w : World} (h : ∃ F, (CntH gc gm v c).sat F w) : ROc w gc 2 (.bool c.asl) := by
  obtain ⟨F, G, h1, _⟩ := h
  have hb : Blk w gc _ _ := (h1 0 _ rfl).2
  exact ⟨hb.lt, by rw [hb.cell]; rfl⟩

theorem eff_m (gx gc gm nd kd kn : Nat) (Ad An : Option Addr) (devs : List Dev) (x : Crs) (t : Nat) (ck dev reg cv : Int) (w : World) (F : Nat → Prop) (hp : (CrsH gx gc gm (.slice Ad nd kd) (.slice An nd kn) x).sat F w) (hF : ∀ b, F b → b < w.heap.size)
    (hdev : RsR (slq ⟨w, fun b => b < w.heap.size ∧ ¬ F b⟩) (DevR (slq ⟨w, fun b => b < w.heap.size ∧ ¬ F b⟩)) 83 6 Ad nd devs) (hnd : nd = devs.length) (hnd6 : nd ≤ 6) (ht : t < 3) (hl : x.h.length = 18) :
    Calls Try.prog 54 #[.pointer (some ⟨gx, 0, none⟩), .int .i64 (t : Int), .agg #[.int .u8 ck, .int .i64 dev, .int .i64 reg, .int .u32 cv]] w (fun y w' => y = .returned (.int .i64 (effF devs x t ck dev reg).1) ∧ ∃ F', (CrsH gx gc gm (.slice Ad nd kd) (.slice An nd kn) (effF devs x t ck dev reg).2).sat F' w' ∧ Turns w w' F F') := by
  refine XK.enterM (p := CrsH gx gc gm (.slice Ad nd kd) (.slice An nd kn) x) (F := F) (vs := [.pointer (some ⟨gx, 0, none⟩), .int .i64 (t : Int), .agg #[.int .u8 ck, .int .i64 dev, .int .i64 reg, .int .u32 cv]]) Try.func54 rfl Try.ntmps54 (by simp) hp hF ?_
  unfold CrsH
  refine XK.take 0 0 rfl rfl ?_
  dsimp only [List.set]
  refine XK.take 1 1 rfl rfl ?_
  dsimp only [List.set]
  refine XK.seq ?_

  refine XK.region ?_
  refine xk_box rfl (by decide) fun g1 => ?_
  refine xk_assign rfl (by decide) ?_
  refine XK.nil ?_
  (repeat (first | refine XK.thenN ?_ | refine XK.thenE ?_ | refine XK.thenR ?_ | refine XK.inN ?_ | refine XK.inE ?_ | refine XK.inR ?_ | refine XK.inF rfl ?_))
  refine XK.cutB 7 (0 ≤ dev ∧ dev < (nd : Int)) ?_ ?_
  · skip

    refine XK.draw 11 (by kernel_rfl) (by kernel_rfl) ?_
    refine XA.do_ 0 rfl rfl rfl (by decide) (does_field (off := 1) (by kernel_rfl) rfl) (by kernel_rfl) (fun _ _ _ h => h) (by first | exact fun _ h => h | exact fun _ h => h.tail | exact fun _ h => h.tailR | exact fun _ h => h.tail.tail | exact fun _ h => h.tailR.tail | exact fun _ h => h.tailR.tailR) ?_
    refine XA.do_ 1 rfl rfl rfl (by decide) (does_load (by kernel_rfl) rfl (by first | assumption | exact Rd.blk 0 rfl rfl | exact Rd.blk 1 rfl rfl | exact Rd.blk 2 rfl rfl | exact Rd.blk 3 rfl rfl | exact Rd.blk 4 rfl rfl | exact Rd.blk 5 rfl rfl | exact Rd.blk 6 rfl rfl | exact Rd.blk 7 rfl rfl | exact Rd.blk 8 rfl rfl | exact Rd.roc (by simp) (by assumption) | (apply Rd.rocN (by simp); assumption; rfl))) (by kernel_rfl) (fun _ _ _ h => h) (by first | exact fun _ h => h | exact fun _ h => h.tail | exact fun _ h => h.tailR | exact fun _ h => h.tail.tail | exact fun _ h => h.tailR.tail | exact fun _ h => h.tailR.tailR) ?_
    refine XA.do_ 2 rfl rfl rfl (by decide) (does_geq rfl rfl) (by kernel_rfl) (fun _ _ _ h => h) (by first | exact fun _ h => h | exact fun _ h => h.tail | exact fun _ h => h.tailR | exact fun _ h => h.tail.tail | exact fun _ h => h.tailR.tail | exact fun _ h => h.tailR.tailR) ?_
    refine XA.do_ 3 rfl rfl rfl (by decide) (does_move rfl) (by kernel_rfl) (fun _ _ _ h => h) (by first | exact fun _ h => h | exact fun _ h => h.tail | exact fun _ h => h.tailR | exact fun _ h => h.tail.tail | exact fun _ h => h.tailR.tail | exact fun _ h => h.tailR.tailR) ?_
    (first | refine XA.split (t := 13) rfl (fun hg => ?_) (fun hg => ?_) | refine XA.splitB (t := 13) rfl (fun hg => ?_) (fun hg => ?_))
    ·
      refine XA.doT 4 rfl rfl rfl (by decide) (does_field (off := 1) (by kernel_rfl) rfl) (by kernel_rfl) (fun _ _ _ h => h) (by first | exact fun _ h => h | exact fun _ h => h.tail | exact fun _ h => h.tailR | exact fun _ h => h.tail.tail | exact fun _ h => h.tailR.tail | exact fun _ h => h.tailR.tailR) ?_
      refine XA.doT 5 rfl rfl rfl (by decide) (does_load (by kernel_rfl) rfl (by first | assumption | exact Rd.blk 0 rfl rfl | exact Rd.blk 1 rfl rfl | exact Rd.blk 2 rfl rfl | exact Rd.blk 3 rfl rfl | exact Rd.blk 4 rfl rfl | exact Rd.blk 5 rfl rfl | exact Rd.blk 6 rfl rfl | exact Rd.blk 7 rfl rfl | exact Rd.blk 8 rfl rfl | exact Rd.roc (by simp) (by assumption) | (apply Rd.rocN (by simp); assumption; rfl))) (by kernel_rfl) (fun _ _ _ h => h) (by first | exact fun _ h => h | exact fun _ h => h.tail | exact fun _ h => h.tailR | exact fun _ h => h.tail.tail | exact fun _ h => h.tailR.tail | exact fun _ h => h.tailR.tailR) ?_
      refine XA.doT 6 rfl rfl rfl (by decide) (does_move rfl) (by kernel_rfl) (fun _ _ _ h => h) (by first | exact fun _ h => h | exact fun _ h => h.tail | exact fun _ h => h.tailR | exact fun _ h => h.tail.tail | exact fun _ h => h.tailR.tail | exact fun _ h => h.tailR.tailR) ?_
      refine XA.doT 7 rfl rfl rfl (by decide) (does_nilC rfl) (by kernel_rfl) (fun _ _ _ h => h) (by first | exact fun _ h => h | exact fun _ h => h.tail | exact fun _ h => h.tailR | exact fun _ h => h.tail.tail | exact fun _ h => h.tailR.tail | exact fun _ h => h.tailR.tailR) ?_
      refine XA.doT 8 rfl rfl rfl (by decide) (does_field (off := 0) (by kernel_rfl) rfl) (by kernel_rfl) (fun _ _ _ h => h) (by first | exact fun _ h => h | exact fun _ h => h.tail | exact fun _ h => h.tailR | exact fun _ h => h.tail.tail | exact fun _ h => h.tailR.tail | exact fun _ h => h.tailR.tailR) ?_
      refine XA.doT 9 rfl rfl rfl (by decide) (does_load (by kernel_rfl) rfl (by first | assumption | exact Rd.blk 0 rfl rfl | exact Rd.blk 1 rfl rfl | exact Rd.blk 2 rfl rfl | exact Rd.blk 3 rfl rfl | exact Rd.blk 4 rfl rfl | exact Rd.blk 5 rfl rfl | exact Rd.blk 6 rfl rfl | exact Rd.blk 7 rfl rfl | exact Rd.blk 8 rfl rfl | exact Rd.roc (by simp) (by assumption) | (apply Rd.rocN (by simp); assumption; rfl))) (by kernel_rfl) (fun _ _ _ h => h) (by first | exact fun _ h => h | exact fun _ h => h.tail | exact fun _ h => h.tailR | exact fun _ h => h.tail.tail | exact fun _ h => h.tailR.tail | exact fun _ h => h.tailR.tailR) ?_
      refine XA.doT 10 rfl rfl rfl (by decide) (does_len (el := 83) (by kernel_rfl) rfl) (by kernel_rfl) (fun _ _ _ h => h) (by first | exact fun _ h => h | exact fun _ h => h.tail | exact fun _ h => h.tailR | exact fun _ h => h.tail.tail | exact fun _ h => h.tailR.tail | exact fun _ h => h.tailR.tailR) ?_
      refine XA.next 11 rfl (by kernel_rfl) ?_
      refine xk_guardT rfl rfl ?_; refine xk_lss rfl rfl (by decide) ?_
      refine XK.nil ?_; refine XK.thenN ?_; refine XA.backT rfl ?_
      refine XA.next 12 rfl (by kernel_rfl) ?_
      (first | refine xk_pickT rfl rfl (by decide) ?_ | refine xk_pickF rfl rfl (by decide) ?_)
      refine XK.nil ?_; refine XK.thenN ?_; refine XA.backT rfl ?_
      refine XA.next 13 rfl (by kernel_rfl) ?_
      refine xk_assign rfl (by decide) ?_
      refine XK.nil ?_; refine XK.thenN ?_; refine XA.backT rfl ?_
      refine XA.done (by kernel_rfl) ?_
      (repeat (first | refine XK.thenN ?_ | refine XK.thenE ?_ | refine XK.thenR ?_ | refine XK.inN ?_ | refine XK.inE ?_ | refine XK.inR ?_ | refine XK.inF rfl ?_))
      exact XK.meetB (by repeat (first | exact trivial | refine ⟨rfl, ?_⟩)) (by first | exact get_iff rfl (by first | omega | simp_all) | exact get_false rfl (by first | omega | simp_all) | exact get_true rfl (by first | omega | simp_all))
    ·
      refine XA.doF 4 rfl rfl rfl rfl (by decide) (by kernel_rfl) (fun _ _ _ h => h) (by first | exact fun _ h => h | exact fun _ h => h.tail | exact fun _ h => h.tailR | exact fun _ h => h.tail.tail | exact fun _ h => h.tailR.tail | exact fun _ h => h.tailR.tailR) ?_
      refine XA.doF 5 rfl rfl rfl rfl (by decide) (by kernel_rfl) (fun _ _ _ h => h) (by first | exact fun _ h => h | exact fun _ h => h.tail | exact fun _ h => h.tailR | exact fun _ h => h.tail.tail | exact fun _ h => h.tailR.tail | exact fun _ h => h.tailR.tailR) ?_
      refine XA.doF 6 rfl rfl rfl rfl (by decide) (by kernel_rfl) (fun _ _ _ h => h) (by first | exact fun _ h => h | exact fun _ h => h.tail | exact fun _ h => h.tailR | exact fun _ h => h.tail.tail | exact fun _ h => h.tailR.tail | exact fun _ h => h.tailR.tailR) ?_
      refine XA.doF 7 rfl rfl rfl rfl (by decide) (by kernel_rfl) (fun _ _ _ h => h) (by first | exact fun _ h => h | exact fun _ h => h.tail | exact fun _ h => h.tailR | exact fun _ h => h.tail.tail | exact fun _ h => h.tailR.tail | exact fun _ h => h.tailR.tailR) ?_
      refine XA.doF 8 rfl rfl rfl rfl (by decide) (by kernel_rfl) (fun _ _ _ h => h) (by first | exact fun _ h => h | exact fun _ h => h.tail | exact fun _ h => h.tailR | exact fun _ h => h.tail.tail | exact fun _ h => h.tailR.tail | exact fun _ h => h.tailR.tailR) ?_
      refine XA.doF 9 rfl rfl rfl rfl (by decide) (by kernel_rfl) (fun _ _ _ h => h) (by first | exact fun _ h => h | exact fun _ h => h.tail | exact fun _ h => h.tailR | exact fun _ h => h.tail.tail | exact fun _ h => h.tailR.tail | exact fun _ h => h.tailR.tailR) ?_
      refine XA.doF 10 rfl rfl rfl rfl (by decide) (by kernel_rfl) (fun _ _ _ h => h) (by first | exact fun _ h => h | exact fun _ h => h.tail | exact fun _ h => h.tailR | exact fun _ h => h.tail.tail | exact fun _ h => h.tailR.tail | exact fun _ h => h.tailR.tailR) ?_
      refine XA.next 11 rfl (by kernel_rfl) ?_
      refine xk_guardF rfl rfl rfl (by decide) ?_
      refine XK.nil ?_; refine XK.thenN ?_; refine XA.backT rfl ?_
      refine XA.next 12 rfl (by kernel_rfl) ?_
      (first | refine xk_pickT rfl rfl (by decide) ?_ | refine xk_pickF rfl rfl (by decide) ?_)
      refine XK.nil ?_; refine XK.thenN ?_; refine XA.backT rfl ?_
      refine XA.next 13 rfl (by kernel_rfl) ?_
      refine xk_assign rfl (by decide) ?_
      refine XK.nil ?_; refine XK.thenN ?_; refine XA.backT rfl ?_
      refine XA.done (by kernel_rfl) ?_
      (repeat (first | refine XK.thenN ?_ | refine XK.thenE ?_ | refine XK.thenR ?_ | refine XK.inN ?_ | refine XK.inE ?_ | refine XK.inR ?_ | refine XK.inF rfl ?_))
      exact XK.meetB (by repeat (first | exact trivial | refine ⟨rfl, ?_⟩)) (by first | exact get_iff rfl (by first | omega | simp_all) | exact get_false rfl (by first | omega | simp_all) | exact get_true rfl (by first | omega | simp_all))
  refine XK.seq ?_
  refine XK.seq ?_

  refine XK.region ?_
  refine xk_field (off := 0) (by kernel_rfl) rfl (by decide) ?_
  refine xk_load (by kernel_rfl) rfl (by first | assumption | exact Rd.blk 0 rfl rfl | exact Rd.blk 1 rfl rfl | exact Rd.blk 2 rfl rfl | exact Rd.blk 3 rfl rfl | exact Rd.blk 4 rfl rfl | exact Rd.blk 5 rfl rfl | exact Rd.blk 6 rfl rfl | exact Rd.blk 7 rfl rfl | exact Rd.blk 8 rfl rfl | exact Rd.roc (by simp) (by assumption) | (apply Rd.rocN (by simp); assumption; rfl)) (by decide) ?_
  refine XK.nil ?_
  (repeat (first | refine XK.thenN ?_ | refine XK.thenE ?_ | refine XK.thenR ?_ | refine XK.inN ?_ | refine XK.inE ?_ | refine XK.inR ?_ | refine XK.inF rfl ?_))
  refine XK.block ?_
  refine XK.seq ?_

  refine XK.region ?_
  refine xk_eql rfl rfl (by decide) ?_
  refine xk_assign rfl (by decide) ?_
  refine XK.nil ?_
  (repeat (first | refine XK.thenN ?_ | refine XK.thenE ?_ | refine XK.thenR ?_ | refine XK.inN ?_ | refine XK.inE ?_ | refine XK.inR ?_ | refine XK.inF rfl ?_))
  refine XK.if_ rfl (fun h => ?_) (fun h => ?_)
  ·
    refine XK.seq ?_

    refine XK.draw 6 (by kernel_rfl) (by kernel_rfl) ?_
    refine XA.do_ 0 rfl rfl rfl (by decide) (does_move rfl) (by kernel_rfl) (fun _ _ _ h => h) (by first | exact fun _ h => h | exact fun _ h => h.tail | exact fun _ h => h.tailR | exact fun _ h => h.tail.tail | exact fun _ h => h.tailR.tail | exact fun _ h => h.tailR.tailR) ?_
    refine XA.do_ 1 rfl rfl rfl (by decide) (does_nilC rfl) (by kernel_rfl) (fun _ _ _ h => h) (by first | exact fun _ h => h | exact fun _ h => h.tail | exact fun _ h => h.tailR | exact fun _ h => h.tail.tail | exact fun _ h => h.tailR.tail | exact fun _ h => h.tailR.tailR) ?_
    refine XA.do_ 2 rfl rfl rfl (by decide) (does_field (off := 1) (by kernel_rfl) rfl) (by kernel_rfl) (fun _ _ _ h => h) (by first | exact fun _ h => h | exact fun _ h => h.tail | exact fun _ h => h.tailR | exact fun _ h => h.tail.tail | exact fun _ h => h.tailR.tail | exact fun _ h => h.tailR.tailR) ?_
    refine XA.do_ 3 rfl rfl rfl (by decide) (does_load (by kernel_rfl) rfl (by first | assumption | exact Rd.blk 0 rfl rfl | exact Rd.blk 1 rfl rfl | exact Rd.blk 2 rfl rfl | exact Rd.blk 3 rfl rfl | exact Rd.blk 4 rfl rfl | exact Rd.blk 5 rfl rfl | exact Rd.blk 6 rfl rfl | exact Rd.blk 7 rfl rfl | exact Rd.blk 8 rfl rfl | exact Rd.roc (by simp) (by assumption) | (apply Rd.rocN (by simp); assumption; rfl))) (by kernel_rfl) (fun _ _ _ h => h) (by first | exact fun _ h => h | exact fun _ h => h.tail | exact fun _ h => h.tailR | exact fun _ h => h.tail.tail | exact fun _ h => h.tailR.tail | exact fun _ h => h.tailR.tailR) ?_
    refine XA.do_ 4 rfl rfl rfl (by decide) (does_field (off := 1) (by kernel_rfl) rfl) (by kernel_rfl) (fun _ _ _ h => h) (by first | exact fun _ h => h | exact fun _ h => h.tail | exact fun _ h => h.tailR | exact fun _ h => h.tail.tail | exact fun _ h => h.tailR.tail | exact fun _ h => h.tailR.tailR) ?_
    refine XA.do_ 5 rfl rfl rfl (by decide) (does_load (by kernel_rfl) rfl (by first | assumption | exact Rd.blk 0 rfl rfl | exact Rd.blk 1 rfl rfl | exact Rd.blk 2 rfl rfl | exact Rd.blk 3 rfl rfl | exact Rd.blk 4 rfl rfl | exact Rd.blk 5 rfl rfl | exact Rd.blk 6 rfl rfl | exact Rd.blk 7 rfl rfl | exact Rd.blk 8 rfl rfl | exact Rd.roc (by simp) (by assumption) | (apply Rd.rocN (by simp); assumption; rfl))) (by kernel_rfl) (fun _ _ _ h => h) (by first | exact fun _ h => h | exact fun _ h => h.tail | exact fun _ h => h.tailR | exact fun _ h => h.tail.tail | exact fun _ h => h.tailR.tail | exact fun _ h => h.tailR.tailR) ?_
    refine XA.next 6 rfl (by kernel_rfl) ?_
    refine xk_callM (f := 100) (fi := []) (ca := []) 1 (CntH gc gm (.slice An nd kn) (cget nd x.c dev).2) (by kernel_rfl) rfl rfl rfl ⟨by decide, rfl⟩ (fun w1 F1 st hp1 hF1 => get_m gc gm nd kn An x.c dev w1 F1 hp1 hF1) ?_
    dsimp only [List.set]
    refine XK.nil ?_; refine XK.thenN ?_; refine XA.backT rfl ?_
    refine XA.next 7 rfl (by kernel_rfl) ?_
    refine xk_assign rfl (by decide) ?_
    refine XK.nil ?_; refine XK.thenN ?_; refine XA.backT rfl ?_
    refine XA.done (by kernel_rfl) ?_
    (repeat (first | refine XK.thenN ?_ | refine XK.thenE ?_ | refine XK.thenR ?_ | refine XK.inN ?_ | refine XK.inE ?_ | refine XK.inR ?_ | refine XK.inF rfl ?_))
    refine XK.seq ?_
    refine XK.seq ?_

    refine XK.region ?_
    refine xk_move rfl (by decide) ?_
    refine xk_eql rfl rfl (by decide) ?_
    refine XK.nil ?_
    (repeat (first | refine XK.thenN ?_ | refine XK.thenE ?_ | refine XK.thenR ?_ | refine XK.inN ?_ | refine XK.inE ?_ | refine XK.inR ?_ | refine XK.inF rfl ?_))
    refine XK.if_ rfl (fun h => ?_) (fun h => ?_)
    ·

      have hkn := cget_known h
      obtain ⟨dk, rfl⟩ : ∃ dk : Nat, dev = (dk : Int) := ⟨dev.toNat, by omega⟩
      have hdk : dk < nd := by omega
      obtain ⟨hv0, hv⟩ : ∃ v, x.h[t * 6 + dk]? = some v := ⟨_, List.getElem?_eq_getElem (by omega)⟩
      have hva : hAt x.h t dk = hv0 := by rw [hAt, hv]; rfl
      refine XK.draw 13 (by kernel_rfl) (by kernel_rfl) ?_
      refine XA.do_ 0 rfl rfl rfl (by decide) (does_move rfl) (by kernel_rfl) (fun _ _ _ h => h) (by first | exact fun _ h => h | exact fun _ h => h.tail | exact fun _ h => h.tailR | exact fun _ h => h.tail.tail | exact fun _ h => h.tailR.tail | exact fun _ h => h.tailR.tailR) ?_
      refine XA.do_ 1 rfl rfl rfl (by decide) (does_move rfl) (by kernel_rfl) (fun _ _ _ h => h) (by first | exact fun _ h => h | exact fun _ h => h.tail | exact fun _ h => h.tailR | exact fun _ h => h.tail.tail | exact fun _ h => h.tailR.tail | exact fun _ h => h.tailR.tailR) ?_
      refine XA.do_ 2 rfl rfl rfl (by decide) (does_field (off := 1) (by kernel_rfl) rfl) (by kernel_rfl) (fun _ _ _ h => h) (by first | exact fun _ h => h | exact fun _ h => h.tail | exact fun _ h => h.tailR | exact fun _ h => h.tail.tail | exact fun _ h => h.tailR.tail | exact fun _ h => h.tailR.tailR) ?_
      refine XA.do_ 3 rfl rfl rfl (by decide) (does_load (by kernel_rfl) rfl (by first | assumption | exact Rd.blk 0 rfl rfl | exact Rd.blk 1 rfl rfl | exact Rd.blk 2 rfl rfl | exact Rd.blk 3 rfl rfl | exact Rd.blk 4 rfl rfl | exact Rd.blk 5 rfl rfl | exact Rd.blk 6 rfl rfl | exact Rd.blk 7 rfl rfl | exact Rd.blk 8 rfl rfl | exact Rd.roc (by simp) (by assumption) | (apply Rd.rocN (by simp); assumption; rfl))) (by kernel_rfl) (fun _ _ _ h => h) (by first | exact fun _ h => h | exact fun _ h => h.tail | exact fun _ h => h.tailR | exact fun _ h => h.tail.tail | exact fun _ h => h.tailR.tail | exact fun _ h => h.tailR.tailR) ?_
      refine XA.do_ 4 rfl rfl rfl (by decide) (does_nilC rfl) (by kernel_rfl) (fun _ _ _ h => h) (by first | exact fun _ h => h | exact fun _ h => h.tail | exact fun _ h => h.tailR | exact fun _ h => h.tail.tail | exact fun _ h => h.tailR.tail | exact fun _ h => h.tailR.tailR) ?_
      refine XA.do_ 5 rfl rfl rfl (by decide) (does_field (off := 2) (by kernel_rfl) rfl) (by kernel_rfl) (fun _ _ _ h => h) (by first | exact fun _ h => h | exact fun _ h => h.tail | exact fun _ h => h.tailR | exact fun _ h => h.tail.tail | exact fun _ h => h.tailR.tail | exact fun _ h => h.tailR.tailR) ?_
      refine XA.do_ 6 rfl rfl rfl (by decide) (does_atA (t) (2 + t * 6) (n := 3) (el := 121) (sz := 6) (by kernel_rfl) (by kernel_rfl) rfl rfl (by omega) (by omega) (by omega)) (by kernel_rfl) (fun _ _ _ h => h) (by first | exact fun _ h => h | exact fun _ h => h.tail | exact fun _ h => h.tailR | exact fun _ h => h.tail.tail | exact fun _ h => h.tailR.tail | exact fun _ h => h.tailR.tailR) ?_
      refine XA.do_ 7 rfl rfl rfl (by decide) (does_atA (dk) (2 + t * 6 + dk) (n := 6) (el := 3) (sz := 1) (by kernel_rfl) (by kernel_rfl) rfl rfl (by omega) (by omega) (by omega)) (by kernel_rfl) (fun _ _ _ h => h) (by first | exact fun _ h => h | exact fun _ h => h.tail | exact fun _ h => h.tailR | exact fun _ h => h.tail.tail | exact fun _ h => h.tailR.tail | exact fun _ h => h.tailR.tailR) ?_
      refine XA.do_ 8 rfl rfl rfl (by decide) (does_load (by kernel_rfl) rfl (Rd.blk 2 rfl (hcell hv))) (by kernel_rfl) (fun _ _ _ h => h) (by first | exact fun _ h => h | exact fun _ h => h.tail | exact fun _ h => h.tailR | exact fun _ h => h.tail.tail | exact fun _ h => h.tailR.tail | exact fun _ h => h.tailR.tailR) ?_
      refine XA.do_ 9 rfl rfl rfl (by decide) (does_add rfl rfl rfl) (by kernel_rfl) (fun _ _ _ h => h) (by first | exact fun _ h => h | exact fun _ h => h.tail | exact fun _ h => h.tailR | exact fun _ h => h.tail.tail | exact fun _ h => h.tailR.tail | exact fun _ h => h.tailR.tailR) ?_
      refine XA.do_ 10 rfl rfl rfl (by decide) (does_nilC rfl) (by kernel_rfl) (fun _ _ _ h => h) (by first | exact fun _ h => h | exact fun _ h => h.tail | exact fun _ h => h.tailR | exact fun _ h => h.tail.tail | exact fun _ h => h.tailR.tail | exact fun _ h => h.tailR.tailR) ?_
      refine XA.do_ 11 rfl rfl rfl (by decide) (does_field (off := 2) (by kernel_rfl) rfl) (by kernel_rfl) (fun _ _ _ h => h) (by first | exact fun _ h => h | exact fun _ h => h.tail | exact fun _ h => h.tailR | exact fun _ h => h.tail.tail | exact fun _ h => h.tailR.tail | exact fun _ h => h.tailR.tailR) ?_
      refine XA.do_ 12 rfl rfl rfl (by decide) (does_atA (t) (2 + t * 6) (n := 3) (el := 121) (sz := 6) (by kernel_rfl) (by kernel_rfl) rfl rfl (by omega) (by omega) (by omega)) (by kernel_rfl) (fun _ _ _ h => h) (by first | exact fun _ h => h | exact fun _ h => h.tail | exact fun _ h => h.tailR | exact fun _ h => h.tail.tail | exact fun _ h => h.tailR.tail | exact fun _ h => h.tailR.tailR) ?_
      refine XA.next 13 rfl (by kernel_rfl) ?_
      refine xk_atA (dk) (2 + t * 6 + dk) (n := 6) (el := 3) (sz := 1) (by kernel_rfl) (by kernel_rfl) rfl rfl (by omega) (by omega) (by omega) (by decide) ?_
      refine XK.nil ?_; refine XK.thenN ?_; refine XA.backT rfl ?_
      refine XA.next 14 rfl (by kernel_rfl) ?_
      refine xk_store 2 rfl (by kernel_rfl) rfl rfl rfl (by simp [hCells]; omega) ?_
      dsimp only [List.set]
      rw [hset]
      refine XK.nil ?_; refine XK.thenN ?_; refine XA.backT rfl ?_
      refine XA.done (by kernel_rfl) ?_
      (repeat (first | refine XK.thenN ?_ | refine XK.thenE ?_ | refine XK.thenR ?_ | refine XK.inN ?_ | refine XK.inE ?_ | refine XK.inR ?_ | refine XK.inF rfl ?_))
      refine XK.seq ?_

      refine XK.region ?_
      refine xk_move rfl (by decide) ?_
      refine xk_assign rfl (by decide) ?_
      refine XK.nil ?_
      (repeat (first | refine XK.thenN ?_ | refine XK.thenE ?_ | refine XK.thenR ?_ | refine XK.inN ?_ | refine XK.inE ?_ | refine XK.inR ?_ | refine XK.inF rfl ?_))
      refine XK.ret ?_
      (repeat (first | refine XK.thenN ?_ | refine XK.thenE ?_ | refine XK.thenR ?_ | refine XK.inN ?_ | refine XK.inE ?_ | refine XK.inR ?_ | refine XK.inF rfl ?_))
      have hr : effF devs x t ck dk reg = ((cget nd x.c dk).1, ⟨(cget nd x.c dk).2, x.h.set (t * 6 + dk) (IntKind.i64.wrap (hv0 + 1))⟩) := by unfold effF; simp_all
      refine XK.weak [1, 2, 3] rfl (by decide) (fun _ hp => hp) ?_
      refine XK.give 1 1 rfl rfl ?_
      dsimp only [List.set]
      refine XK.give 0 0 rfl rfl ?_
      dsimp only [List.set]
      refine XK.ret1 rfl rfl fun w1 st => ?_
      rw [hr]
      exact ⟨rfl, st.turns hF (by simp) (i := 0) rfl⟩
    ·
      refine XK.skip ?_
      (repeat (first | refine XK.thenN ?_ | refine XK.thenE ?_ | refine XK.thenR ?_ | refine XK.inN ?_ | refine XK.inE ?_ | refine XK.inR ?_ | refine XK.inF rfl ?_))
      refine XK.seq ?_

      refine XK.region ?_
      refine xk_move rfl (by decide) ?_
      refine xk_assign rfl (by decide) ?_
      refine XK.nil ?_
      (repeat (first | refine XK.thenN ?_ | refine XK.thenE ?_ | refine XK.thenR ?_ | refine XK.inN ?_ | refine XK.inE ?_ | refine XK.inR ?_ | refine XK.inF rfl ?_))
      refine XK.ret ?_
      (repeat (first | refine XK.thenN ?_ | refine XK.thenE ?_ | refine XK.thenR ?_ | refine XK.inN ?_ | refine XK.inE ?_ | refine XK.inR ?_ | refine XK.inF rfl ?_))
      have hr : effF devs x t ck dev reg = ((cget nd x.c dev).1, ⟨(cget nd x.c dev).2, x.h⟩) := by unfold effF; simp_all
      refine XK.weak [1, 2, 3] rfl (by decide) (fun _ hp => hp) ?_
      refine XK.give 1 1 rfl rfl ?_
      dsimp only [List.set]
      refine XK.give 0 0 rfl rfl ?_
      dsimp only [List.set]
      refine XK.ret1 rfl rfl fun w1 st => ?_
      rw [hr]
      exact ⟨rfl, st.turns hF (by simp) (i := 0) rfl⟩
  ·
    refine XK.seq ?_

    refine XK.region ?_
    refine xk_eql rfl rfl (by decide) ?_
    refine xk_assign rfl (by decide) ?_
    refine XK.nil ?_
    (repeat (first | refine XK.thenN ?_ | refine XK.thenE ?_ | refine XK.thenR ?_ | refine XK.inN ?_ | refine XK.inE ?_ | refine XK.inR ?_ | refine XK.inF rfl ?_))
    refine XK.if_ rfl (fun h => ?_) (fun h => ?_)
    ·
      refine XK.seq ?_
      refine XK.seq ?_

      refine XK.region ?_
      refine xk_move rfl (by decide) ?_
      (first | refine xk_notD rfl (by decide) ?_ | refine xk_not rfl (by decide) ?_)
      refine XK.nil ?_
      (repeat (first | refine XK.thenN ?_ | refine XK.thenE ?_ | refine XK.thenR ?_ | refine XK.inN ?_ | refine XK.inE ?_ | refine XK.inR ?_ | refine XK.inF rfl ?_))
      refine XK.if_ rfl (fun h => ?_) (fun h => ?_)
      ·
        refine XK.seq ?_

        refine XK.region ?_
        refine xk_assign rfl (by decide) ?_
        refine XK.nil ?_
        (repeat (first | refine XK.thenN ?_ | refine XK.thenE ?_ | refine XK.thenR ?_ | refine XK.inN ?_ | refine XK.inE ?_ | refine XK.inR ?_ | refine XK.inF rfl ?_))
        refine XK.ret ?_
        (repeat (first | refine XK.thenN ?_ | refine XK.thenE ?_ | refine XK.thenR ?_ | refine XK.inN ?_ | refine XK.inE ?_ | refine XK.inR ?_ | refine XK.inF rfl ?_))
        have hr : effF devs x t ck dev reg = (4, x) := by unfold effF; simp_all
        refine XK.weak [1, 2, 3] rfl (by decide) (fun _ hp => hp) ?_
        refine XK.give 1 1 rfl rfl ?_
        dsimp only [List.set]
        refine XK.give 0 0 rfl rfl ?_
        dsimp only [List.set]
        refine XK.ret1 rfl rfl fun w1 st => ?_
        rw [hr]
        exact ⟨rfl, st.turns hF (by simp) (i := 0) rfl⟩
      ·
        refine XK.skip ?_
        (repeat (first | refine XK.thenN ?_ | refine XK.thenE ?_ | refine XK.thenR ?_ | refine XK.inN ?_ | refine XK.inE ?_ | refine XK.inR ?_ | refine XK.inF rfl ?_))
        refine XK.seq ?_
        refine XK.seq ?_

        have hkn : 0 ≤ dev ∧ dev < (nd : Int) := by simp_all
        obtain ⟨dk, rfl⟩ : ∃ dk : Nat, dev = (dk : Int) := ⟨dev.toNat, by omega⟩
        have hdk : dk < nd := by omega
        obtain ⟨hv0, hv⟩ : ∃ v, x.h[t * 6 + dk]? = some v := ⟨_, List.getElem?_eq_getElem (by omega)⟩
        have hva : hAt x.h t dk = hv0 := by rw [hAt, hv]; rfl
        refine XK.draw 7 (by kernel_rfl) (by kernel_rfl) ?_
        refine XA.do_ 0 rfl rfl rfl (by decide) (does_move rfl) (by kernel_rfl) (fun _ _ _ h => h) (by first | exact fun _ h => h | exact fun _ h => h.tail | exact fun _ h => h.tailR | exact fun _ h => h.tail.tail | exact fun _ h => h.tailR.tail | exact fun _ h => h.tailR.tailR) ?_
        refine XA.do_ 1 rfl rfl rfl (by decide) (does_move rfl) (by kernel_rfl) (fun _ _ _ h => h) (by first | exact fun _ h => h | exact fun _ h => h.tail | exact fun _ h => h.tailR | exact fun _ h => h.tail.tail | exact fun _ h => h.tailR.tail | exact fun _ h => h.tailR.tailR) ?_
        refine XA.do_ 2 rfl rfl rfl (by decide) (does_field (off := 1) (by kernel_rfl) rfl) (by kernel_rfl) (fun _ _ _ h => h) (by first | exact fun _ h => h | exact fun _ h => h.tail | exact fun _ h => h.tailR | exact fun _ h => h.tail.tail | exact fun _ h => h.tailR.tail | exact fun _ h => h.tailR.tailR) ?_
        refine XA.do_ 3 rfl rfl rfl (by decide) (does_load (by kernel_rfl) rfl (by first | assumption | exact Rd.blk 0 rfl rfl | exact Rd.blk 1 rfl rfl | exact Rd.blk 2 rfl rfl | exact Rd.blk 3 rfl rfl | exact Rd.blk 4 rfl rfl | exact Rd.blk 5 rfl rfl | exact Rd.blk 6 rfl rfl | exact Rd.blk 7 rfl rfl | exact Rd.blk 8 rfl rfl | exact Rd.roc (by simp) (by assumption) | (apply Rd.rocN (by simp); assumption; rfl))) (by kernel_rfl) (fun _ _ _ h => h) (by first | exact fun _ h => h | exact fun _ h => h.tail | exact fun _ h => h.tailR | exact fun _ h => h.tail.tail | exact fun _ h => h.tailR.tail | exact fun _ h => h.tailR.tailR) ?_
        refine XA.do_ 4 rfl rfl rfl (by decide) (does_nilC rfl) (by kernel_rfl) (fun _ _ _ h => h) (by first | exact fun _ h => h | exact fun _ h => h.tail | exact fun _ h => h.tailR | exact fun _ h => h.tail.tail | exact fun _ h => h.tailR.tail | exact fun _ h => h.tailR.tailR) ?_
        refine XA.do_ 5 rfl rfl rfl (by decide) (does_field (off := 2) (by kernel_rfl) rfl) (by kernel_rfl) (fun _ _ _ h => h) (by first | exact fun _ h => h | exact fun _ h => h.tail | exact fun _ h => h.tailR | exact fun _ h => h.tail.tail | exact fun _ h => h.tailR.tail | exact fun _ h => h.tailR.tailR) ?_
        refine XA.do_ 6 rfl rfl rfl (by decide) (does_atA (t) (2 + t * 6) (n := 3) (el := 121) (sz := 6) (by kernel_rfl) (by kernel_rfl) rfl rfl (by omega) (by omega) (by omega)) (by kernel_rfl) (fun _ _ _ h => h) (by first | exact fun _ h => h | exact fun _ h => h.tail | exact fun _ h => h.tailR | exact fun _ h => h.tail.tail | exact fun _ h => h.tailR.tail | exact fun _ h => h.tailR.tailR) ?_
        refine XA.next 7 rfl (by kernel_rfl) ?_
        refine xk_atA (dk) (2 + t * 6 + dk) (n := 6) (el := 3) (sz := 1) (by kernel_rfl) (by kernel_rfl) rfl rfl (by omega) (by omega) (by omega) (by decide) ?_
        refine XK.nil ?_; refine XK.thenN ?_; refine XA.backT rfl ?_
        refine XA.next 8 rfl (by kernel_rfl) ?_
        refine xk_load (by kernel_rfl) rfl (Rd.blk 2 rfl (hcell hv)) (by decide) ?_
        refine XK.nil ?_; refine XK.thenN ?_; refine XA.backT rfl ?_
        refine XA.next 9 rfl (by kernel_rfl) ?_
        refine xk_eql rfl rfl (by decide) ?_
        refine XK.nil ?_; refine XK.thenN ?_; refine XA.backT rfl ?_
        refine XA.done (by kernel_rfl) ?_
        (repeat (first | refine XK.thenN ?_ | refine XK.thenE ?_ | refine XK.thenR ?_ | refine XK.inN ?_ | refine XK.inE ?_ | refine XK.inR ?_ | refine XK.inF rfl ?_))
        refine XK.if_ rfl (fun h => ?_) (fun h => ?_)
        ·
          refine XK.seq ?_

          refine XK.region ?_
          refine xk_assign rfl (by decide) ?_
          refine XK.nil ?_
          (repeat (first | refine XK.thenN ?_ | refine XK.thenE ?_ | refine XK.thenR ?_ | refine XK.inN ?_ | refine XK.inE ?_ | refine XK.inR ?_ | refine XK.inF rfl ?_))
          refine XK.ret ?_
          (repeat (first | refine XK.thenN ?_ | refine XK.thenE ?_ | refine XK.thenR ?_ | refine XK.inN ?_ | refine XK.inE ?_ | refine XK.inR ?_ | refine XK.inF rfl ?_))
          have hr : effF devs x t ck dk reg = (6, x) := by unfold effF; simp_all
          refine XK.weak [1, 2, 3] rfl (by decide) (fun _ hp => hp) ?_
          refine XK.give 1 1 rfl rfl ?_
          dsimp only [List.set]
          refine XK.give 0 0 rfl rfl ?_
          dsimp only [List.set]
          refine XK.ret1 rfl rfl fun w1 st => ?_
          rw [hr]
          exact ⟨rfl, st.turns hF (by simp) (i := 0) rfl⟩
        ·
          refine XK.skip ?_
          (repeat (first | refine XK.thenN ?_ | refine XK.thenE ?_ | refine XK.thenR ?_ | refine XK.inN ?_ | refine XK.inE ?_ | refine XK.inR ?_ | refine XK.inF rfl ?_))
          refine XK.seq ?_

          refine XK.draw 6 (by kernel_rfl) (by kernel_rfl) ?_
          refine XA.do_ 0 rfl rfl rfl (by decide) (does_move rfl) (by kernel_rfl) (fun _ _ _ h => h) (by first | exact fun _ h => h | exact fun _ h => h.tail | exact fun _ h => h.tailR | exact fun _ h => h.tail.tail | exact fun _ h => h.tailR.tail | exact fun _ h => h.tailR.tailR) ?_
          refine XA.do_ 1 rfl rfl rfl (by decide) (does_nilC rfl) (by kernel_rfl) (fun _ _ _ h => h) (by first | exact fun _ h => h | exact fun _ h => h.tail | exact fun _ h => h.tailR | exact fun _ h => h.tail.tail | exact fun _ h => h.tailR.tail | exact fun _ h => h.tailR.tailR) ?_
          refine XA.do_ 2 rfl rfl rfl (by decide) (does_field (off := 1) (by kernel_rfl) rfl) (by kernel_rfl) (fun _ _ _ h => h) (by first | exact fun _ h => h | exact fun _ h => h.tail | exact fun _ h => h.tailR | exact fun _ h => h.tail.tail | exact fun _ h => h.tailR.tail | exact fun _ h => h.tailR.tailR) ?_
          refine XA.do_ 3 rfl rfl rfl (by decide) (does_load (by kernel_rfl) rfl (by first | assumption | exact Rd.blk 0 rfl rfl | exact Rd.blk 1 rfl rfl | exact Rd.blk 2 rfl rfl | exact Rd.blk 3 rfl rfl | exact Rd.blk 4 rfl rfl | exact Rd.blk 5 rfl rfl | exact Rd.blk 6 rfl rfl | exact Rd.blk 7 rfl rfl | exact Rd.blk 8 rfl rfl | exact Rd.roc (by simp) (by assumption) | (apply Rd.rocN (by simp); assumption; rfl))) (by kernel_rfl) (fun _ _ _ h => h) (by first | exact fun _ h => h | exact fun _ h => h.tail | exact fun _ h => h.tailR | exact fun _ h => h.tail.tail | exact fun _ h => h.tailR.tail | exact fun _ h => h.tailR.tailR) ?_
          refine XA.do_ 4 rfl rfl rfl (by decide) (does_field (off := 1) (by kernel_rfl) rfl) (by kernel_rfl) (fun _ _ _ h => h) (by first | exact fun _ h => h | exact fun _ h => h.tail | exact fun _ h => h.tailR | exact fun _ h => h.tail.tail | exact fun _ h => h.tailR.tail | exact fun _ h => h.tailR.tailR) ?_
          refine XA.do_ 5 rfl rfl rfl (by decide) (does_load (by kernel_rfl) rfl (by first | assumption | exact Rd.blk 0 rfl rfl | exact Rd.blk 1 rfl rfl | exact Rd.blk 2 rfl rfl | exact Rd.blk 3 rfl rfl | exact Rd.blk 4 rfl rfl | exact Rd.blk 5 rfl rfl | exact Rd.blk 6 rfl rfl | exact Rd.blk 7 rfl rfl | exact Rd.blk 8 rfl rfl | exact Rd.roc (by simp) (by assumption) | (apply Rd.rocN (by simp); assumption; rfl))) (by kernel_rfl) (fun _ _ _ h => h) (by first | exact fun _ h => h | exact fun _ h => h.tail | exact fun _ h => h.tailR | exact fun _ h => h.tail.tail | exact fun _ h => h.tailR.tail | exact fun _ h => h.tailR.tailR) ?_
          refine XA.next 6 rfl (by kernel_rfl) ?_
          refine xk_callM (f := 101) (fi := []) (ca := []) 1 (CntH gc gm (.slice An nd kn) (cput nd x.c dk).2) (by kernel_rfl) rfl rfl rfl ⟨by decide, rfl⟩ (fun w1 F1 st hp1 hF1 => put_m gc gm nd kn An x.c dk w1 F1 hp1 hF1) ?_
          dsimp only [List.set]
          refine XK.nil ?_; refine XK.thenN ?_; refine XA.backT rfl ?_
          refine XA.next 7 rfl (by kernel_rfl) ?_
          refine xk_assign rfl (by decide) ?_
          refine XK.nil ?_; refine XK.thenN ?_; refine XA.backT rfl ?_
          refine XA.done (by kernel_rfl) ?_
          (repeat (first | refine XK.thenN ?_ | refine XK.thenE ?_ | refine XK.thenR ?_ | refine XK.inN ?_ | refine XK.inE ?_ | refine XK.inR ?_ | refine XK.inF rfl ?_))
          refine XK.seq ?_
          refine XK.seq ?_

          refine XK.region ?_
          refine xk_move rfl (by decide) ?_
          refine xk_eql rfl rfl (by decide) ?_
          refine XK.nil ?_
          (repeat (first | refine XK.thenN ?_ | refine XK.thenE ?_ | refine XK.thenR ?_ | refine XK.inN ?_ | refine XK.inE ?_ | refine XK.inR ?_ | refine XK.inF rfl ?_))
          refine XK.if_ rfl (fun h => ?_) (fun h => ?_)
          ·

            refine XK.draw 13 (by kernel_rfl) (by kernel_rfl) ?_
            refine XA.do_ 0 rfl rfl rfl (by decide) (does_move rfl) (by kernel_rfl) (fun _ _ _ h => h) (by first | exact fun _ h => h | exact fun _ h => h.tail | exact fun _ h => h.tailR | exact fun _ h => h.tail.tail | exact fun _ h => h.tailR.tail | exact fun _ h => h.tailR.tailR) ?_
            refine XA.do_ 1 rfl rfl rfl (by decide) (does_move rfl) (by kernel_rfl) (fun _ _ _ h => h) (by first | exact fun _ h => h | exact fun _ h => h.tail | exact fun _ h => h.tailR | exact fun _ h => h.tail.tail | exact fun _ h => h.tailR.tail | exact fun _ h => h.tailR.tailR) ?_
            refine XA.do_ 2 rfl rfl rfl (by decide) (does_field (off := 1) (by kernel_rfl) rfl) (by kernel_rfl) (fun _ _ _ h => h) (by first | exact fun _ h => h | exact fun _ h => h.tail | exact fun _ h => h.tailR | exact fun _ h => h.tail.tail | exact fun _ h => h.tailR.tail | exact fun _ h => h.tailR.tailR) ?_
            refine XA.do_ 3 rfl rfl rfl (by decide) (does_load (by kernel_rfl) rfl (by first | assumption | exact Rd.blk 0 rfl rfl | exact Rd.blk 1 rfl rfl | exact Rd.blk 2 rfl rfl | exact Rd.blk 3 rfl rfl | exact Rd.blk 4 rfl rfl | exact Rd.blk 5 rfl rfl | exact Rd.blk 6 rfl rfl | exact Rd.blk 7 rfl rfl | exact Rd.blk 8 rfl rfl | exact Rd.roc (by simp) (by assumption) | (apply Rd.rocN (by simp); assumption; rfl))) (by kernel_rfl) (fun _ _ _ h => h) (by first | exact fun _ h => h | exact fun _ h => h.tail | exact fun _ h => h.tailR | exact fun _ h => h.tail.tail | exact fun _ h => h.tailR.tail | exact fun _ h => h.tailR.tailR) ?_
            refine XA.do_ 4 rfl rfl rfl (by decide) (does_nilC rfl) (by kernel_rfl) (fun _ _ _ h => h) (by first | exact fun _ h => h | exact fun _ h => h.tail | exact fun _ h => h.tailR | exact fun _ h => h.tail.tail | exact fun _ h => h.tailR.tail | exact fun _ h => h.tailR.tailR) ?_
            refine XA.do_ 5 rfl rfl rfl (by decide) (does_field (off := 2) (by kernel_rfl) rfl) (by kernel_rfl) (fun _ _ _ h => h) (by first | exact fun _ h => h | exact fun _ h => h.tail | exact fun _ h => h.tailR | exact fun _ h => h.tail.tail | exact fun _ h => h.tailR.tail | exact fun _ h => h.tailR.tailR) ?_
            refine XA.do_ 6 rfl rfl rfl (by decide) (does_atA (t) (2 + t * 6) (n := 3) (el := 121) (sz := 6) (by kernel_rfl) (by kernel_rfl) rfl rfl (by omega) (by omega) (by omega)) (by kernel_rfl) (fun _ _ _ h => h) (by first | exact fun _ h => h | exact fun _ h => h.tail | exact fun _ h => h.tailR | exact fun _ h => h.tail.tail | exact fun _ h => h.tailR.tail | exact fun _ h => h.tailR.tailR) ?_
            refine XA.do_ 7 rfl rfl rfl (by decide) (does_atA (dk) (2 + t * 6 + dk) (n := 6) (el := 3) (sz := 1) (by kernel_rfl) (by kernel_rfl) rfl rfl (by omega) (by omega) (by omega)) (by kernel_rfl) (fun _ _ _ h => h) (by first | exact fun _ h => h | exact fun _ h => h.tail | exact fun _ h => h.tailR | exact fun _ h => h.tail.tail | exact fun _ h => h.tailR.tail | exact fun _ h => h.tailR.tailR) ?_
            refine XA.do_ 8 rfl rfl rfl (by decide) (does_load (by kernel_rfl) rfl (Rd.blk 2 rfl (hcell hv))) (by kernel_rfl) (fun _ _ _ h => h) (by first | exact fun _ h => h | exact fun _ h => h.tail | exact fun _ h => h.tailR | exact fun _ h => h.tail.tail | exact fun _ h => h.tailR.tail | exact fun _ h => h.tailR.tailR) ?_
            refine XA.do_ 9 rfl rfl rfl (by decide) (does_sub rfl rfl rfl) (by kernel_rfl) (fun _ _ _ h => h) (by first | exact fun _ h => h | exact fun _ h => h.tail | exact fun _ h => h.tailR | exact fun _ h => h.tail.tail | exact fun _ h => h.tailR.tail | exact fun _ h => h.tailR.tailR) ?_
            refine XA.do_ 10 rfl rfl rfl (by decide) (does_nilC rfl) (by kernel_rfl) (fun _ _ _ h => h) (by first | exact fun _ h => h | exact fun _ h => h.tail | exact fun _ h => h.tailR | exact fun _ h => h.tail.tail | exact fun _ h => h.tailR.tail | exact fun _ h => h.tailR.tailR) ?_
            refine XA.do_ 11 rfl rfl rfl (by decide) (does_field (off := 2) (by kernel_rfl) rfl) (by kernel_rfl) (fun _ _ _ h => h) (by first | exact fun _ h => h | exact fun _ h => h.tail | exact fun _ h => h.tailR | exact fun _ h => h.tail.tail | exact fun _ h => h.tailR.tail | exact fun _ h => h.tailR.tailR) ?_
            refine XA.do_ 12 rfl rfl rfl (by decide) (does_atA (t) (2 + t * 6) (n := 3) (el := 121) (sz := 6) (by kernel_rfl) (by kernel_rfl) rfl rfl (by omega) (by omega) (by omega)) (by kernel_rfl) (fun _ _ _ h => h) (by first | exact fun _ h => h | exact fun _ h => h.tail | exact fun _ h => h.tailR | exact fun _ h => h.tail.tail | exact fun _ h => h.tailR.tail | exact fun _ h => h.tailR.tailR) ?_
            refine XA.next 13 rfl (by kernel_rfl) ?_
            refine xk_atA (dk) (2 + t * 6 + dk) (n := 6) (el := 3) (sz := 1) (by kernel_rfl) (by kernel_rfl) rfl rfl (by omega) (by omega) (by omega) (by decide) ?_
            refine XK.nil ?_; refine XK.thenN ?_; refine XA.backT rfl ?_
            refine XA.next 14 rfl (by kernel_rfl) ?_
            refine xk_store 2 rfl (by kernel_rfl) rfl rfl rfl (by simp [hCells]; omega) ?_
            dsimp only [List.set]
            rw [hset]
            refine XK.nil ?_; refine XK.thenN ?_; refine XA.backT rfl ?_
            refine XA.done (by kernel_rfl) ?_
            (repeat (first | refine XK.thenN ?_ | refine XK.thenE ?_ | refine XK.thenR ?_ | refine XK.inN ?_ | refine XK.inE ?_ | refine XK.inR ?_ | refine XK.inF rfl ?_))
            refine XK.seq ?_

            refine XK.region ?_
            refine xk_move rfl (by decide) ?_
            refine xk_assign rfl (by decide) ?_
            refine XK.nil ?_
            (repeat (first | refine XK.thenN ?_ | refine XK.thenE ?_ | refine XK.thenR ?_ | refine XK.inN ?_ | refine XK.inE ?_ | refine XK.inR ?_ | refine XK.inF rfl ?_))
            refine XK.ret ?_
            (repeat (first | refine XK.thenN ?_ | refine XK.thenE ?_ | refine XK.thenR ?_ | refine XK.inN ?_ | refine XK.inE ?_ | refine XK.inR ?_ | refine XK.inF rfl ?_))
            have hr : effF devs x t ck dk reg = ((cput nd x.c dk).1, ⟨(cput nd x.c dk).2, x.h.set (t * 6 + dk) (IntKind.i64.wrap (hv0 - 1))⟩) := by unfold effF; simp_all
            refine XK.weak [1, 2, 3] rfl (by decide) (fun _ hp => hp) ?_
            refine XK.give 1 1 rfl rfl ?_
            dsimp only [List.set]
            refine XK.give 0 0 rfl rfl ?_
            dsimp only [List.set]
            refine XK.ret1 rfl rfl fun w1 st => ?_
            rw [hr]
            exact ⟨rfl, st.turns hF (by simp) (i := 0) rfl⟩
          ·
            refine XK.skip ?_
            (repeat (first | refine XK.thenN ?_ | refine XK.thenE ?_ | refine XK.thenR ?_ | refine XK.inN ?_ | refine XK.inE ?_ | refine XK.inR ?_ | refine XK.inF rfl ?_))
            refine XK.seq ?_

            refine XK.region ?_
            refine xk_move rfl (by decide) ?_
            refine xk_assign rfl (by decide) ?_
            refine XK.nil ?_
            (repeat (first | refine XK.thenN ?_ | refine XK.thenE ?_ | refine XK.thenR ?_ | refine XK.inN ?_ | refine XK.inE ?_ | refine XK.inR ?_ | refine XK.inF rfl ?_))
            refine XK.ret ?_
            (repeat (first | refine XK.thenN ?_ | refine XK.thenE ?_ | refine XK.thenR ?_ | refine XK.inN ?_ | refine XK.inE ?_ | refine XK.inR ?_ | refine XK.inF rfl ?_))
            have hr : effF devs x t ck dk reg = ((cput nd x.c dk).1, ⟨(cput nd x.c dk).2, x.h⟩) := by unfold effF; simp_all
            refine XK.weak [1, 2, 3] rfl (by decide) (fun _ hp => hp) ?_
            refine XK.give 1 1 rfl rfl ?_
            dsimp only [List.set]
            refine XK.give 0 0 rfl rfl ?_
            dsimp only [List.set]
            refine XK.ret1 rfl rfl fun w1 st => ?_
            rw [hr]
            exact ⟨rfl, st.turns hF (by simp) (i := 0) rfl⟩
    ·
      refine XK.seq ?_

      refine XK.region ?_
      refine xk_eql rfl rfl (by decide) ?_
      refine xk_assign rfl (by decide) ?_
      refine XK.nil ?_
      (repeat (first | refine XK.thenN ?_ | refine XK.thenE ?_ | refine XK.thenR ?_ | refine XK.inN ?_ | refine XK.inE ?_ | refine XK.inR ?_ | refine XK.inF rfl ?_))
      refine XK.if_ rfl (fun h => ?_) (fun h => ?_)
      ·
        refine XK.seq ?_

        refine XK.region ?_
        refine xk_move rfl (by decide) ?_
        refine xk_nilC rfl (by decide) ?_
        refine xk_field (off := 1) (by kernel_rfl) rfl (by decide) ?_
        refine xk_load (by kernel_rfl) rfl (by first | assumption | exact Rd.blk 0 rfl rfl | exact Rd.blk 1 rfl rfl | exact Rd.blk 2 rfl rfl | exact Rd.blk 3 rfl rfl | exact Rd.blk 4 rfl rfl | exact Rd.blk 5 rfl rfl | exact Rd.blk 6 rfl rfl | exact Rd.blk 7 rfl rfl | exact Rd.blk 8 rfl rfl | exact Rd.roc (by simp) (by assumption) | (apply Rd.rocN (by simp); assumption; rfl)) (by decide) ?_
        refine xk_callM (f := 102) (fi := []) (ca := []) 1 (CntH gc gm (.slice An nd kn) (csus x.c).2) (by kernel_rfl) rfl rfl rfl ⟨by decide, rfl⟩ (fun w1 F1 st hp1 hF1 => sus_m gc gm nd kn An x.c w1 F1 hp1 hF1) ?_
        dsimp only [List.set]
        refine xk_assign rfl (by decide) ?_
        refine XK.nil ?_
        (repeat (first | refine XK.thenN ?_ | refine XK.thenE ?_ | refine XK.thenR ?_ | refine XK.inN ?_ | refine XK.inE ?_ | refine XK.inR ?_ | refine XK.inF rfl ?_))
        refine XK.ret ?_
        (repeat (first | refine XK.thenN ?_ | refine XK.thenE ?_ | refine XK.thenR ?_ | refine XK.inN ?_ | refine XK.inE ?_ | refine XK.inR ?_ | refine XK.inF rfl ?_))
        have hr : effF devs x t ck dev reg = ((csus x.c).1, ⟨(csus x.c).2, x.h⟩) := by unfold effF; simp_all
        refine XK.weak [1, 2, 3] rfl (by decide) (fun _ hp => hp) ?_
        refine XK.give 1 1 rfl rfl ?_
        dsimp only [List.set]
        refine XK.give 0 0 rfl rfl ?_
        dsimp only [List.set]
        refine XK.ret1 rfl rfl fun w1 st => ?_
        rw [hr]
        exact ⟨rfl, st.turns hF (by simp) (i := 0) rfl⟩
      ·
        refine XK.seq ?_

        refine XK.region ?_
        refine xk_eql rfl rfl (by decide) ?_
        refine xk_assign rfl (by decide) ?_
        refine XK.nil ?_
        (repeat (first | refine XK.thenN ?_ | refine XK.thenE ?_ | refine XK.thenR ?_ | refine XK.inN ?_ | refine XK.inE ?_ | refine XK.inR ?_ | refine XK.inF rfl ?_))
        refine XK.if_ rfl (fun h => ?_) (fun h => ?_)
        ·
          refine XK.seq ?_

          refine XK.region ?_
          refine xk_move rfl (by decide) ?_
          refine xk_nilC rfl (by decide) ?_
          refine xk_field (off := 1) (by kernel_rfl) rfl (by decide) ?_
          refine xk_load (by kernel_rfl) rfl (by first | assumption | exact Rd.blk 0 rfl rfl | exact Rd.blk 1 rfl rfl | exact Rd.blk 2 rfl rfl | exact Rd.blk 3 rfl rfl | exact Rd.blk 4 rfl rfl | exact Rd.blk 5 rfl rfl | exact Rd.blk 6 rfl rfl | exact Rd.blk 7 rfl rfl | exact Rd.blk 8 rfl rfl | exact Rd.roc (by simp) (by assumption) | (apply Rd.rocN (by simp); assumption; rfl)) (by decide) ?_
          refine xk_callM (f := 103) (fi := []) (ca := []) 1 (CntH gc gm (.slice An nd kn) (cres x.c).2) (by kernel_rfl) rfl rfl rfl ⟨by decide, rfl⟩ (fun w1 F1 st hp1 hF1 => res_m gc gm nd kn An x.c w1 F1 hp1 hF1) ?_
          dsimp only [List.set]
          refine xk_assign rfl (by decide) ?_
          refine XK.nil ?_
          (repeat (first | refine XK.thenN ?_ | refine XK.thenE ?_ | refine XK.thenR ?_ | refine XK.inN ?_ | refine XK.inE ?_ | refine XK.inR ?_ | refine XK.inF rfl ?_))
          refine XK.ret ?_
          (repeat (first | refine XK.thenN ?_ | refine XK.thenE ?_ | refine XK.thenR ?_ | refine XK.inN ?_ | refine XK.inE ?_ | refine XK.inR ?_ | refine XK.inF rfl ?_))
          have hr : effF devs x t ck dev reg = ((cres x.c).1, ⟨(cres x.c).2, x.h⟩) := by unfold effF; simp_all
          refine XK.weak [1, 2, 3] rfl (by decide) (fun _ hp => hp) ?_
          refine XK.give 1 1 rfl rfl ?_
          dsimp only [List.set]
          refine XK.give 0 0 rfl rfl ?_
          dsimp only [List.set]
          refine XK.ret1 rfl rfl fun w1 st => ?_
          rw [hr]
          exact ⟨rfl, st.turns hF (by simp) (i := 0) rfl⟩
        ·
          refine XK.cutB 103 (ck = 114 ∨ ck = 119) ?_ ?_
          · skip
            refine XK.seq ?_

            refine XK.region ?_
            refine xk_eql rfl rfl (by decide) ?_
            refine xk_assign rfl (by decide) ?_
            refine XK.nil ?_
            (repeat (first | refine XK.thenN ?_ | refine XK.thenE ?_ | refine XK.thenR ?_ | refine XK.inN ?_ | refine XK.inE ?_ | refine XK.inR ?_ | refine XK.inF rfl ?_))
            refine XK.if_ rfl (fun h => ?_) (fun h => ?_)
            ·
              refine XK.skip ?_
              (repeat (first | refine XK.thenN ?_ | refine XK.thenE ?_ | refine XK.thenR ?_ | refine XK.inN ?_ | refine XK.inE ?_ | refine XK.inR ?_ | refine XK.inF rfl ?_))
              exact XK.meetB (by repeat (first | exact trivial | refine ⟨rfl, ?_⟩)) (by first | exact get_iff rfl (by first | omega | simp_all) | exact get_false rfl (by first | omega | simp_all) | exact get_true rfl (by first | omega | simp_all))
            ·

              refine XK.region ?_
              refine xk_eql rfl rfl (by decide) ?_
              refine xk_assign rfl (by decide) ?_
              refine XK.nil ?_
              (repeat (first | refine XK.thenN ?_ | refine XK.thenE ?_ | refine XK.thenR ?_ | refine XK.inN ?_ | refine XK.inE ?_ | refine XK.inR ?_ | refine XK.inF rfl ?_))
              exact XK.meetB (by repeat (first | exact trivial | refine ⟨rfl, ?_⟩)) (by first | exact get_iff rfl (by first | omega | simp_all) | exact get_false rfl (by first | omega | simp_all) | exact get_true rfl (by first | omega | simp_all))
          refine XK.if_ rfl (fun h => ?_) (fun h => ?_)
          ·
            refine XK.seq ?_
            refine XK.cutB 127 (¬ (0 ≤ dev ∧ dev < (nd : Int)) ∨ reg < 0 ∨ (regsN devs dev.toNat : Int) ≤ reg) ?_ ?_
            · skip

              refine XK.draw 20 (by kernel_rfl) (by kernel_rfl) ?_
              refine XA.do_ 0 rfl rfl rfl (by decide) (does_move rfl) (by kernel_rfl) (fun _ _ _ h => h) (by first | exact fun _ h => h | exact fun _ h => h.tail | exact fun _ h => h.tailR | exact fun _ h => h.tail.tail | exact fun _ h => h.tailR.tail | exact fun _ h => h.tailR.tailR) ?_
              refine XA.do_ 1 rfl rfl rfl (by decide) (by first | exact does_notD rfl | exact does_not rfl) (by kernel_rfl) (fun _ _ _ h => h) (by first | exact fun _ h => h | exact fun _ h => h.tail | exact fun _ h => h.tailR | exact fun _ h => h.tail.tail | exact fun _ h => h.tailR.tail | exact fun _ h => h.tailR.tailR) ?_
              refine XA.do_ 2 rfl rfl rfl (by decide) (does_move rfl) (by kernel_rfl) (fun _ _ _ h => h) (by first | exact fun _ h => h | exact fun _ h => h.tail | exact fun _ h => h.tailR | exact fun _ h => h.tail.tail | exact fun _ h => h.tailR.tail | exact fun _ h => h.tailR.tailR) ?_
              (first | refine XA.split (t := 108) rfl (fun hg => ?_) (fun hg => ?_) | refine XA.splitB (t := 108) rfl (fun hg => ?_) (fun hg => ?_))
              ·
                refine XA.doF 3 rfl rfl rfl rfl (by decide) (by kernel_rfl) (fun _ _ _ h => h) (by first | exact fun _ h => h | exact fun _ h => h.tail | exact fun _ h => h.tailR | exact fun _ h => h.tail.tail | exact fun _ h => h.tailR.tail | exact fun _ h => h.tailR.tailR) ?_
                refine XA.doF 4 rfl rfl rfl rfl (by decide) (by kernel_rfl) (fun _ _ _ h => h) (by first | exact fun _ h => h | exact fun _ h => h.tail | exact fun _ h => h.tailR | exact fun _ h => h.tail.tail | exact fun _ h => h.tailR.tail | exact fun _ h => h.tailR.tailR) ?_
                refine XA.doF 5 rfl rfl rfl rfl (by decide) (by kernel_rfl) (fun _ _ _ h => h) (by first | exact fun _ h => h | exact fun _ h => h.tail | exact fun _ h => h.tailR | exact fun _ h => h.tail.tail | exact fun _ h => h.tailR.tail | exact fun _ h => h.tailR.tailR) ?_
                refine XA.do_ 6 rfl rfl rfl (by decide) (by first | exact does_pickT rfl rfl | exact does_pickF rfl rfl) (by kernel_rfl) (fun _ _ _ h => h) (by first | exact fun _ h => h | exact fun _ h => h.tail | exact fun _ h => h.tailR | exact fun _ h => h.tail.tail | exact fun _ h => h.tailR.tail | exact fun _ h => h.tailR.tailR) ?_
                refine XA.do_ 7 rfl rfl rfl (by decide) (does_move rfl) (by kernel_rfl) (fun _ _ _ h => h) (by first | exact fun _ h => h | exact fun _ h => h.tail | exact fun _ h => h.tailR | exact fun _ h => h.tail.tail | exact fun _ h => h.tailR.tail | exact fun _ h => h.tailR.tailR) ?_
                refine XA.doF 8 rfl rfl rfl rfl (by decide) (by kernel_rfl) (fun _ _ _ h => h) (by first | exact fun _ h => h | exact fun _ h => h.tail | exact fun _ h => h.tailR | exact fun _ h => h.tail.tail | exact fun _ h => h.tailR.tail | exact fun _ h => h.tailR.tailR) ?_
                refine XA.doF 9 rfl rfl rfl rfl (by decide) (by kernel_rfl) (fun _ _ _ h => h) (by first | exact fun _ h => h | exact fun _ h => h.tail | exact fun _ h => h.tailR | exact fun _ h => h.tail.tail | exact fun _ h => h.tailR.tail | exact fun _ h => h.tailR.tailR) ?_
                refine XA.doF 10 rfl rfl rfl rfl (by decide) (by kernel_rfl) (fun _ _ _ h => h) (by first | exact fun _ h => h | exact fun _ h => h.tail | exact fun _ h => h.tailR | exact fun _ h => h.tail.tail | exact fun _ h => h.tailR.tail | exact fun _ h => h.tailR.tailR) ?_
                refine XA.doF 11 rfl rfl rfl rfl (by decide) (by kernel_rfl) (fun _ _ _ h => h) (by first | exact fun _ h => h | exact fun _ h => h.tail | exact fun _ h => h.tailR | exact fun _ h => h.tail.tail | exact fun _ h => h.tailR.tail | exact fun _ h => h.tailR.tailR) ?_
                refine XA.doF 12 rfl rfl rfl rfl (by decide) (by kernel_rfl) (fun _ _ _ h => h) (by first | exact fun _ h => h | exact fun _ h => h.tail | exact fun _ h => h.tailR | exact fun _ h => h.tail.tail | exact fun _ h => h.tailR.tail | exact fun _ h => h.tailR.tailR) ?_
                refine XA.doF 13 rfl rfl rfl rfl (by decide) (by kernel_rfl) (fun _ _ _ h => h) (by first | exact fun _ h => h | exact fun _ h => h.tail | exact fun _ h => h.tailR | exact fun _ h => h.tail.tail | exact fun _ h => h.tailR.tail | exact fun _ h => h.tailR.tailR) ?_
                refine XA.doF 14 rfl rfl rfl rfl (by decide) (by kernel_rfl) (fun _ _ _ h => h) (by first | exact fun _ h => h | exact fun _ h => h.tail | exact fun _ h => h.tailR | exact fun _ h => h.tail.tail | exact fun _ h => h.tailR.tail | exact fun _ h => h.tailR.tailR) ?_
                refine XA.doF 15 rfl rfl rfl rfl (by decide) (by kernel_rfl) (fun _ _ _ h => h) (by first | exact fun _ h => h | exact fun _ h => h.tail | exact fun _ h => h.tailR | exact fun _ h => h.tail.tail | exact fun _ h => h.tailR.tail | exact fun _ h => h.tailR.tailR) ?_
                refine XA.doF 16 rfl rfl rfl rfl (by decide) (by kernel_rfl) (fun _ _ _ h => h) (by first | exact fun _ h => h | exact fun _ h => h.tail | exact fun _ h => h.tailR | exact fun _ h => h.tail.tail | exact fun _ h => h.tailR.tail | exact fun _ h => h.tailR.tailR) ?_
                refine XA.doF 17 rfl rfl rfl rfl (by decide) (by kernel_rfl) (fun _ _ _ h => h) (by first | exact fun _ h => h | exact fun _ h => h.tail | exact fun _ h => h.tailR | exact fun _ h => h.tail.tail | exact fun _ h => h.tailR.tail | exact fun _ h => h.tailR.tailR) ?_
                refine XA.doF 18 rfl rfl rfl rfl (by decide) (by kernel_rfl) (fun _ _ _ h => h) (by first | exact fun _ h => h | exact fun _ h => h.tail | exact fun _ h => h.tailR | exact fun _ h => h.tail.tail | exact fun _ h => h.tailR.tail | exact fun _ h => h.tailR.tailR) ?_
                refine XA.doF 19 rfl rfl rfl rfl (by decide) (by kernel_rfl) (fun _ _ _ h => h) (by first | exact fun _ h => h | exact fun _ h => h.tail | exact fun _ h => h.tailR | exact fun _ h => h.tail.tail | exact fun _ h => h.tailR.tail | exact fun _ h => h.tailR.tailR) ?_
                refine XA.next 20 rfl (by kernel_rfl) ?_
                refine xk_guardF rfl rfl rfl (by decide) ?_
                refine XK.nil ?_; refine XK.thenN ?_; refine XA.backT rfl ?_
                refine XA.next 21 rfl (by kernel_rfl) ?_
                (first | refine xk_pickT rfl rfl (by decide) ?_ | refine xk_pickF rfl rfl (by decide) ?_)
                refine XK.nil ?_; refine XK.thenN ?_; refine XA.backT rfl ?_
                refine XA.done (by kernel_rfl) ?_
                (repeat (first | refine XK.thenN ?_ | refine XK.thenE ?_ | refine XK.thenR ?_ | refine XK.inN ?_ | refine XK.inE ?_ | refine XK.inR ?_ | refine XK.inF rfl ?_))
                exact XK.meetB (by repeat (first | exact trivial | refine ⟨rfl, ?_⟩)) (by first | exact get_iff rfl (by first | omega | simp_all) | exact get_false rfl (by first | omega | simp_all) | exact get_true rfl (by first | omega | simp_all))
              ·
                refine XA.doT 3 rfl rfl rfl (by decide) (does_field (off := 2) (by kernel_rfl) rfl) (by kernel_rfl) (fun _ _ _ h => h) (by first | exact fun _ h => h | exact fun _ h => h.tail | exact fun _ h => h.tailR | exact fun _ h => h.tail.tail | exact fun _ h => h.tailR.tail | exact fun _ h => h.tailR.tailR) ?_
                refine XA.doT 4 rfl rfl rfl (by decide) (does_load (by kernel_rfl) rfl (by first | assumption | exact Rd.blk 0 rfl rfl | exact Rd.blk 1 rfl rfl | exact Rd.blk 2 rfl rfl | exact Rd.blk 3 rfl rfl | exact Rd.blk 4 rfl rfl | exact Rd.blk 5 rfl rfl | exact Rd.blk 6 rfl rfl | exact Rd.blk 7 rfl rfl | exact Rd.blk 8 rfl rfl | exact Rd.roc (by simp) (by assumption) | (apply Rd.rocN (by simp); assumption; rfl))) (by kernel_rfl) (fun _ _ _ h => h) (by first | exact fun _ h => h | exact fun _ h => h.tail | exact fun _ h => h.tailR | exact fun _ h => h.tail.tail | exact fun _ h => h.tailR.tail | exact fun _ h => h.tailR.tailR) ?_
                refine XA.doT 5 rfl rfl rfl (by decide) (does_lss rfl rfl) (by kernel_rfl) (fun _ _ _ h => h) (by first | exact fun _ h => h | exact fun _ h => h.tail | exact fun _ h => h.tailR | exact fun _ h => h.tail.tail | exact fun _ h => h.tailR.tail | exact fun _ h => h.tailR.tailR) ?_
                refine XA.do_ 6 rfl rfl rfl (by decide) (by first | exact does_pickT rfl rfl | exact does_pickF rfl rfl) (by kernel_rfl) (fun _ _ _ h => h) (by first | exact fun _ h => h | exact fun _ h => h.tail | exact fun _ h => h.tailR | exact fun _ h => h.tail.tail | exact fun _ h => h.tailR.tail | exact fun _ h => h.tailR.tailR) ?_
                refine XA.do_ 7 rfl rfl rfl (by decide) (does_move rfl) (by kernel_rfl) (fun _ _ _ h => h) (by first | exact fun _ h => h | exact fun _ h => h.tail | exact fun _ h => h.tailR | exact fun _ h => h.tail.tail | exact fun _ h => h.tailR.tail | exact fun _ h => h.tailR.tailR) ?_
                (first | refine XA.split (t := 113) rfl (fun hg => ?_) (fun hg => ?_) | refine XA.splitB (t := 113) rfl (fun hg => ?_) (fun hg => ?_))
                ·
                  refine XA.doF 8 rfl rfl rfl rfl (by decide) (by kernel_rfl) (fun _ _ _ h => h) (by first | exact fun _ h => h | exact fun _ h => h.tail | exact fun _ h => h.tailR | exact fun _ h => h.tail.tail | exact fun _ h => h.tailR.tail | exact fun _ h => h.tailR.tailR) ?_
                  refine XA.doF 9 rfl rfl rfl rfl (by decide) (by kernel_rfl) (fun _ _ _ h => h) (by first | exact fun _ h => h | exact fun _ h => h.tail | exact fun _ h => h.tailR | exact fun _ h => h.tail.tail | exact fun _ h => h.tailR.tail | exact fun _ h => h.tailR.tailR) ?_
                  refine XA.doF 10 rfl rfl rfl rfl (by decide) (by kernel_rfl) (fun _ _ _ h => h) (by first | exact fun _ h => h | exact fun _ h => h.tail | exact fun _ h => h.tailR | exact fun _ h => h.tail.tail | exact fun _ h => h.tailR.tail | exact fun _ h => h.tailR.tailR) ?_
                  refine XA.doF 11 rfl rfl rfl rfl (by decide) (by kernel_rfl) (fun _ _ _ h => h) (by first | exact fun _ h => h | exact fun _ h => h.tail | exact fun _ h => h.tailR | exact fun _ h => h.tail.tail | exact fun _ h => h.tailR.tail | exact fun _ h => h.tailR.tailR) ?_
                  refine XA.doF 12 rfl rfl rfl rfl (by decide) (by kernel_rfl) (fun _ _ _ h => h) (by first | exact fun _ h => h | exact fun _ h => h.tail | exact fun _ h => h.tailR | exact fun _ h => h.tail.tail | exact fun _ h => h.tailR.tail | exact fun _ h => h.tailR.tailR) ?_
                  refine XA.doF 13 rfl rfl rfl rfl (by decide) (by kernel_rfl) (fun _ _ _ h => h) (by first | exact fun _ h => h | exact fun _ h => h.tail | exact fun _ h => h.tailR | exact fun _ h => h.tail.tail | exact fun _ h => h.tailR.tail | exact fun _ h => h.tailR.tailR) ?_
                  refine XA.doF 14 rfl rfl rfl rfl (by decide) (by kernel_rfl) (fun _ _ _ h => h) (by first | exact fun _ h => h | exact fun _ h => h.tail | exact fun _ h => h.tailR | exact fun _ h => h.tail.tail | exact fun _ h => h.tailR.tail | exact fun _ h => h.tailR.tailR) ?_
                  refine XA.doF 15 rfl rfl rfl rfl (by decide) (by kernel_rfl) (fun _ _ _ h => h) (by first | exact fun _ h => h | exact fun _ h => h.tail | exact fun _ h => h.tailR | exact fun _ h => h.tail.tail | exact fun _ h => h.tailR.tail | exact fun _ h => h.tailR.tailR) ?_
                  refine XA.doF 16 rfl rfl rfl rfl (by decide) (by kernel_rfl) (fun _ _ _ h => h) (by first | exact fun _ h => h | exact fun _ h => h.tail | exact fun _ h => h.tailR | exact fun _ h => h.tail.tail | exact fun _ h => h.tailR.tail | exact fun _ h => h.tailR.tailR) ?_
                  refine XA.doF 17 rfl rfl rfl rfl (by decide) (by kernel_rfl) (fun _ _ _ h => h) (by first | exact fun _ h => h | exact fun _ h => h.tail | exact fun _ h => h.tailR | exact fun _ h => h.tail.tail | exact fun _ h => h.tailR.tail | exact fun _ h => h.tailR.tailR) ?_
                  refine XA.doF 18 rfl rfl rfl rfl (by decide) (by kernel_rfl) (fun _ _ _ h => h) (by first | exact fun _ h => h | exact fun _ h => h.tail | exact fun _ h => h.tailR | exact fun _ h => h.tail.tail | exact fun _ h => h.tailR.tail | exact fun _ h => h.tailR.tailR) ?_
                  refine XA.doF 19 rfl rfl rfl rfl (by decide) (by kernel_rfl) (fun _ _ _ h => h) (by first | exact fun _ h => h | exact fun _ h => h.tail | exact fun _ h => h.tailR | exact fun _ h => h.tail.tail | exact fun _ h => h.tailR.tail | exact fun _ h => h.tailR.tailR) ?_
                  refine XA.next 20 rfl (by kernel_rfl) ?_
                  refine xk_guardF rfl rfl rfl (by decide) ?_
                  refine XK.nil ?_; refine XK.thenN ?_; refine XA.backT rfl ?_
                  refine XA.next 21 rfl (by kernel_rfl) ?_
                  (first | refine xk_pickT rfl rfl (by decide) ?_ | refine xk_pickF rfl rfl (by decide) ?_)
                  refine XK.nil ?_; refine XK.thenN ?_; refine XA.backT rfl ?_
                  refine XA.done (by kernel_rfl) ?_
                  (repeat (first | refine XK.thenN ?_ | refine XK.thenE ?_ | refine XK.thenR ?_ | refine XK.inN ?_ | refine XK.inE ?_ | refine XK.inR ?_ | refine XK.inF rfl ?_))
                  exact XK.meetB (by repeat (first | exact trivial | refine ⟨rfl, ?_⟩)) (by first | exact get_iff rfl (by first | omega | simp_all) | exact get_false rfl (by first | omega | simp_all) | exact get_true rfl (by first | omega | simp_all))
                ·
                  have hkn : 0 ≤ dev ∧ dev < (nd : Int) := by simp_all
                  obtain ⟨dk, rfl⟩ : ∃ dk : Nat, dev = (dk : Int) := ⟨dev.toNat, by omega⟩
                  have hdk : dk < nd := by omega
                  obtain ⟨y, hy⟩ : ∃ y, devs[dk]? = some y := ⟨_, List.getElem?_eq_getElem (by omega)⟩
                  have hrn : regsN devs dk = y.regs.length := by rw [regsN, hy]; rfl
                  obtain ⟨bV, oV, rV, rfl, hzV, _, hR, hcV⟩ := hdev.rowQ hy
                  obtain ⟨Ar, nr, kr, Ann, nn, knn, rfl, hnr, _⟩ := hR
                  refine XA.doT 8 rfl rfl rfl (by decide) (does_field (off := 2) (by kernel_rfl) rfl) (by kernel_rfl) (fun _ _ _ h => h) (by first | exact fun _ h => h | exact fun _ h => h.tail | exact fun _ h => h.tailR | exact fun _ h => h.tail.tail | exact fun _ h => h.tailR.tail | exact fun _ h => h.tailR.tailR) ?_
                  refine XA.doT 9 rfl rfl rfl (by decide) (does_load (by kernel_rfl) rfl (by first | assumption | exact Rd.blk 0 rfl rfl | exact Rd.blk 1 rfl rfl | exact Rd.blk 2 rfl rfl | exact Rd.blk 3 rfl rfl | exact Rd.blk 4 rfl rfl | exact Rd.blk 5 rfl rfl | exact Rd.blk 6 rfl rfl | exact Rd.blk 7 rfl rfl | exact Rd.blk 8 rfl rfl | exact Rd.roc (by simp) (by assumption) | (apply Rd.rocN (by simp); assumption; rfl))) (by kernel_rfl) (fun _ _ _ h => h) (by first | exact fun _ h => h | exact fun _ h => h.tail | exact fun _ h => h.tailR | exact fun _ h => h.tail.tail | exact fun _ h => h.tailR.tail | exact fun _ h => h.tailR.tailR) ?_
                  refine XA.doT 10 rfl rfl rfl (by decide) (does_move rfl) (by kernel_rfl) (fun _ _ _ h => h) (by first | exact fun _ h => h | exact fun _ h => h.tail | exact fun _ h => h.tailR | exact fun _ h => h.tail.tail | exact fun _ h => h.tailR.tail | exact fun _ h => h.tailR.tailR) ?_
                  refine XA.doT 11 rfl rfl rfl (by decide) (does_nilC rfl) (by kernel_rfl) (fun _ _ _ h => h) (by first | exact fun _ h => h | exact fun _ h => h.tail | exact fun _ h => h.tailR | exact fun _ h => h.tail.tail | exact fun _ h => h.tailR.tail | exact fun _ h => h.tailR.tailR) ?_
                  refine XA.doT 12 rfl rfl rfl (by decide) (does_field (off := 0) (by kernel_rfl) rfl) (by kernel_rfl) (fun _ _ _ h => h) (by first | exact fun _ h => h | exact fun _ h => h.tail | exact fun _ h => h.tailR | exact fun _ h => h.tail.tail | exact fun _ h => h.tailR.tail | exact fun _ h => h.tailR.tailR) ?_
                  refine XA.doT 13 rfl rfl rfl (by decide) (does_load (by kernel_rfl) rfl (by first | assumption | exact Rd.blk 0 rfl rfl | exact Rd.blk 1 rfl rfl | exact Rd.blk 2 rfl rfl | exact Rd.blk 3 rfl rfl | exact Rd.blk 4 rfl rfl | exact Rd.blk 5 rfl rfl | exact Rd.blk 6 rfl rfl | exact Rd.blk 7 rfl rfl | exact Rd.blk 8 rfl rfl | exact Rd.roc (by simp) (by assumption) | (apply Rd.rocN (by simp); assumption; rfl))) (by kernel_rfl) (fun _ _ _ h => h) (by first | exact fun _ h => h | exact fun _ h => h.tail | exact fun _ h => h.tailR | exact fun _ h => h.tail.tail | exact fun _ h => h.tailR.tail | exact fun _ h => h.tailR.tailR) ?_
                  refine XA.doT 14 rfl rfl rfl (by decide) (does_field (off := 1) (by kernel_rfl) rfl) (by kernel_rfl) (fun _ _ _ h => h) (by first | exact fun _ h => h | exact fun _ h => h.tail | exact fun _ h => h.tailR | exact fun _ h => h.tail.tail | exact fun _ h => h.tailR.tail | exact fun _ h => h.tailR.tailR) ?_
                  refine XA.doT 15 rfl rfl rfl (by decide) (does_load (by kernel_rfl) rfl (by first | assumption | exact Rd.blk 0 rfl rfl | exact Rd.blk 1 rfl rfl | exact Rd.blk 2 rfl rfl | exact Rd.blk 3 rfl rfl | exact Rd.blk 4 rfl rfl | exact Rd.blk 5 rfl rfl | exact Rd.blk 6 rfl rfl | exact Rd.blk 7 rfl rfl | exact Rd.blk 8 rfl rfl | exact Rd.roc (by simp) (by assumption) | (apply Rd.rocN (by simp); assumption; rfl))) (by kernel_rfl) (fun _ _ _ h => h) (by first | exact fun _ h => h | exact fun _ h => h.tail | exact fun _ h => h.tailR | exact fun _ h => h.tail.tail | exact fun _ h => h.tailR.tail | exact fun _ h => h.tailR.tailR) ?_
                  refine XA.doT 16 rfl rfl rfl (by decide) (does_at (dk) (oV + dk * 6) (el := 83) (sz := 6) (by kernel_rfl) (by kernel_rfl) rfl rfl (by omega) (by omega) (by omega)) (by kernel_rfl) (fun _ _ _ h => h) (by first | exact fun _ h => h | exact fun _ h => h.tail | exact fun _ h => h.tailR | exact fun _ h => h.tail.tail | exact fun _ h => h.tailR.tail | exact fun _ h => h.tailR.tailR) ?_
                  refine XA.doT 17 rfl rfl rfl (by decide) (does_field (off := 4) (by kernel_rfl) rfl) (by kernel_rfl) (fun _ _ _ h => h) (by first | exact fun _ h => h | exact fun _ h => h.tail | exact fun _ h => h.tailR | exact fun _ h => h.tail.tail | exact fun _ h => h.tailR.tail | exact fun _ h => h.tailR.tailR) ?_
                  refine XA.doT 18 rfl rfl rfl (by decide) (does_load (by kernel_rfl) rfl (Rd.ro (p := ⟨w, fun b => b < w.heap.size ∧ ¬ F b⟩) (by simp) hzV (hcV 4 _ rfl))) (by kernel_rfl) (fun _ _ _ h => h) (by first | exact fun _ h => h | exact fun _ h => h.tail | exact fun _ h => h.tailR | exact fun _ h => h.tail.tail | exact fun _ h => h.tailR.tail | exact fun _ h => h.tailR.tailR) ?_
                  refine XA.doT 19 rfl rfl rfl (by decide) (does_len (el := 104) (by kernel_rfl) rfl) (by kernel_rfl) (fun _ _ _ h => h) (by first | exact fun _ h => h | exact fun _ h => h.tail | exact fun _ h => h.tailR | exact fun _ h => h.tail.tail | exact fun _ h => h.tailR.tail | exact fun _ h => h.tailR.tailR) ?_
                  refine XA.next 20 rfl (by kernel_rfl) ?_
                  refine xk_guardT rfl rfl ?_; refine xk_geq rfl rfl (by decide) ?_
                  refine XK.nil ?_; refine XK.thenN ?_; refine XA.backT rfl ?_
                  refine XA.next 21 rfl (by kernel_rfl) ?_
                  (first | refine xk_pickT rfl rfl (by decide) ?_ | refine xk_pickF rfl rfl (by decide) ?_)
                  refine XK.nil ?_; refine XK.thenN ?_; refine XA.backT rfl ?_
                  refine XA.done (by kernel_rfl) ?_
                  (repeat (first | refine XK.thenN ?_ | refine XK.thenE ?_ | refine XK.thenR ?_ | refine XK.inN ?_ | refine XK.inE ?_ | refine XK.inR ?_ | refine XK.inF rfl ?_))
                  exact XK.meetB (by repeat (first | exact trivial | refine ⟨rfl, ?_⟩)) (get_iff rfl (by rw [Int.toNat_natCast, hrn]; omega))
            refine XK.if_ rfl (fun h => ?_) (fun h => ?_)
            ·
              refine XK.seq ?_

              refine XK.region ?_
              refine xk_assign rfl (by decide) ?_
              refine XK.nil ?_
              (repeat (first | refine XK.thenN ?_ | refine XK.thenE ?_ | refine XK.thenR ?_ | refine XK.inN ?_ | refine XK.inE ?_ | refine XK.inR ?_ | refine XK.inF rfl ?_))
              refine XK.ret ?_
              (repeat (first | refine XK.thenN ?_ | refine XK.thenE ?_ | refine XK.thenR ?_ | refine XK.inN ?_ | refine XK.inE ?_ | refine XK.inR ?_ | refine XK.inF rfl ?_))
              have hr : effF devs x t ck dev reg = (4, x) := by unfold effF; simp_all
              refine XK.weak [1, 2, 3] rfl (by decide) (fun _ hp => hp) ?_
              refine XK.give 1 1 rfl rfl ?_
              dsimp only [List.set]
              refine XK.give 0 0 rfl rfl ?_
              dsimp only [List.set]
              refine XK.ret1 rfl rfl fun w1 st => ?_
              rw [hr]
              exact ⟨rfl, st.turns hF (by simp) (i := 0) rfl⟩
            ·
              refine XK.skip ?_
              (repeat (first | refine XK.thenN ?_ | refine XK.thenE ?_ | refine XK.thenR ?_ | refine XK.inN ?_ | refine XK.inE ?_ | refine XK.inR ?_ | refine XK.inF rfl ?_))
              refine XK.cutB 144 (hAt x.h t dev.toNat = 0 ∨ x.c.asl = true) ?_ ?_
              · skip

                have hkn : 0 ≤ dev ∧ dev < (nd : Int) := by omega
                obtain ⟨dk, rfl⟩ : ∃ dk : Nat, dev = (dk : Int) := ⟨dev.toNat, by omega⟩
                have hdk : dk < nd := by omega
                obtain ⟨hv0, hv⟩ : ∃ v, x.h[t * 6 + dk]? = some v := ⟨_, List.getElem?_eq_getElem (by omega)⟩
                have hva : hAt x.h t dk = hv0 := by rw [hAt, hv]; rfl
                refine XK.draw 7 (by kernel_rfl) (by kernel_rfl) ?_
                refine XA.do_ 0 rfl rfl rfl (by decide) (does_move rfl) (by kernel_rfl) (fun _ _ _ h => h) (by first | exact fun _ h => h | exact fun _ h => h.tail | exact fun _ h => h.tailR | exact fun _ h => h.tail.tail | exact fun _ h => h.tailR.tail | exact fun _ h => h.tailR.tailR) ?_
                refine XA.do_ 1 rfl rfl rfl (by decide) (does_move rfl) (by kernel_rfl) (fun _ _ _ h => h) (by first | exact fun _ h => h | exact fun _ h => h.tail | exact fun _ h => h.tailR | exact fun _ h => h.tail.tail | exact fun _ h => h.tailR.tail | exact fun _ h => h.tailR.tailR) ?_
                refine XA.do_ 2 rfl rfl rfl (by decide) (does_field (off := 1) (by kernel_rfl) rfl) (by kernel_rfl) (fun _ _ _ h => h) (by first | exact fun _ h => h | exact fun _ h => h.tail | exact fun _ h => h.tailR | exact fun _ h => h.tail.tail | exact fun _ h => h.tailR.tail | exact fun _ h => h.tailR.tailR) ?_
                refine XA.do_ 3 rfl rfl rfl (by decide) (does_load (by kernel_rfl) rfl (by first | assumption | exact Rd.blk 0 rfl rfl | exact Rd.blk 1 rfl rfl | exact Rd.blk 2 rfl rfl | exact Rd.blk 3 rfl rfl | exact Rd.blk 4 rfl rfl | exact Rd.blk 5 rfl rfl | exact Rd.blk 6 rfl rfl | exact Rd.blk 7 rfl rfl | exact Rd.blk 8 rfl rfl | exact Rd.roc (by simp) (by assumption) | (apply Rd.rocN (by simp); assumption; rfl))) (by kernel_rfl) (fun _ _ _ h => h) (by first | exact fun _ h => h | exact fun _ h => h.tail | exact fun _ h => h.tailR | exact fun _ h => h.tail.tail | exact fun _ h => h.tailR.tail | exact fun _ h => h.tailR.tailR) ?_
                refine XA.do_ 4 rfl rfl rfl (by decide) (does_nilC rfl) (by kernel_rfl) (fun _ _ _ h => h) (by first | exact fun _ h => h | exact fun _ h => h.tail | exact fun _ h => h.tailR | exact fun _ h => h.tail.tail | exact fun _ h => h.tailR.tail | exact fun _ h => h.tailR.tailR) ?_
                refine XA.do_ 5 rfl rfl rfl (by decide) (does_field (off := 2) (by kernel_rfl) rfl) (by kernel_rfl) (fun _ _ _ h => h) (by first | exact fun _ h => h | exact fun _ h => h.tail | exact fun _ h => h.tailR | exact fun _ h => h.tail.tail | exact fun _ h => h.tailR.tail | exact fun _ h => h.tailR.tailR) ?_
                refine XA.do_ 6 rfl rfl rfl (by decide) (does_atA (t) (2 + t * 6) (n := 3) (el := 121) (sz := 6) (by kernel_rfl) (by kernel_rfl) rfl rfl (by omega) (by omega) (by omega)) (by kernel_rfl) (fun _ _ _ h => h) (by first | exact fun _ h => h | exact fun _ h => h.tail | exact fun _ h => h.tailR | exact fun _ h => h.tail.tail | exact fun _ h => h.tailR.tail | exact fun _ h => h.tailR.tailR) ?_
                refine XA.next 7 rfl (by kernel_rfl) ?_
                refine xk_atA (dk) (2 + t * 6 + dk) (n := 6) (el := 3) (sz := 1) (by kernel_rfl) (by kernel_rfl) rfl rfl (by omega) (by omega) (by omega) (by decide) ?_
                refine XK.nil ?_; refine XK.thenN ?_; refine XA.backT rfl ?_
                refine XA.next 8 rfl (by kernel_rfl) ?_
                refine xk_load (by kernel_rfl) rfl (Rd.blk 2 rfl (hcell hv)) (by decide) ?_
                refine XK.nil ?_; refine XK.thenN ?_; refine XA.backT rfl ?_
                refine XA.next 9 rfl (by kernel_rfl) ?_
                refine xk_eql rfl rfl (by decide) ?_
                refine XK.nil ?_; refine XK.thenN ?_; refine XA.backT rfl ?_
                refine XA.next 10 rfl (by kernel_rfl) ?_
                refine xk_move rfl (by decide) ?_
                refine XK.nil ?_; refine XK.thenN ?_; refine XA.backT rfl ?_
                (first | refine XA.split (t := 138) rfl (fun hg => ?_) (fun hg => ?_) | refine XA.splitB (t := 138) rfl (fun hg => ?_) (fun hg => ?_))
                ·
                  refine XA.next 11 rfl (by kernel_rfl) ?_
                  refine xk_guardF rfl rfl rfl (by decide) ?_
                  refine XK.nil ?_; refine XK.thenN ?_; refine XA.backT rfl ?_
                  refine XA.next 12 rfl (by kernel_rfl) ?_
                  refine xk_guardF rfl rfl rfl (by decide) ?_
                  refine XK.nil ?_; refine XK.thenN ?_; refine XA.backT rfl ?_
                  refine XA.next 13 rfl (by kernel_rfl) ?_
                  refine xk_guardF rfl rfl rfl (by decide) ?_
                  refine XK.nil ?_; refine XK.thenN ?_; refine XA.backT rfl ?_
                  refine XA.next 14 rfl (by kernel_rfl) ?_
                  refine xk_guardF rfl rfl rfl (by decide) ?_
                  refine XK.nil ?_; refine XK.thenN ?_; refine XA.backT rfl ?_
                  refine XA.next 15 rfl (by kernel_rfl) ?_
                  refine xk_guardF rfl rfl rfl (by decide) ?_
                  refine XK.nil ?_; refine XK.thenN ?_; refine XA.backT rfl ?_
                  refine XA.next 16 rfl (by kernel_rfl) ?_
                  (first | refine xk_pickT rfl rfl (by decide) ?_ | refine xk_pickF rfl rfl (by decide) ?_)
                  refine XK.nil ?_; refine XK.thenN ?_; refine XA.backT rfl ?_
                  refine XA.done (by kernel_rfl) ?_
                  (repeat (first | refine XK.thenN ?_ | refine XK.thenE ?_ | refine XK.thenR ?_ | refine XK.inN ?_ | refine XK.inE ?_ | refine XK.inR ?_ | refine XK.inF rfl ?_))
                  exact XK.meetB (by repeat (first | exact trivial | refine ⟨rfl, ?_⟩)) (by first | exact get_iff rfl (by first | omega | simp_all) | exact get_false rfl (by first | omega | simp_all) | exact get_true rfl (by first | omega | simp_all))
                ·
                  refine XA.next 11 rfl (by kernel_rfl) ?_
                  refine xk_guardT rfl rfl ?_; refine xk_move rfl (by decide) ?_
                  refine XK.nil ?_; refine XK.thenN ?_; refine XA.backT rfl ?_
                  refine XA.next 12 rfl (by kernel_rfl) ?_
                  refine xk_guardT rfl rfl ?_; refine xk_nilC rfl (by decide) ?_
                  refine XK.nil ?_; refine XK.thenN ?_; refine XA.backT rfl ?_
                  refine XA.next 13 rfl (by kernel_rfl) ?_
                  refine xk_guardT rfl rfl ?_; refine xk_field (off := 1) (by kernel_rfl) rfl (by decide) ?_
                  refine XK.nil ?_; refine XK.thenN ?_; refine XA.backT rfl ?_
                  refine XA.next 14 rfl (by kernel_rfl) ?_
                  refine xk_guardT rfl rfl ?_; refine xk_load (by kernel_rfl) rfl (by first | assumption | exact Rd.blk 0 rfl rfl | exact Rd.blk 1 rfl rfl | exact Rd.blk 2 rfl rfl | exact Rd.blk 3 rfl rfl | exact Rd.blk 4 rfl rfl | exact Rd.blk 5 rfl rfl | exact Rd.blk 6 rfl rfl | exact Rd.blk 7 rfl rfl | exact Rd.blk 8 rfl rfl | exact Rd.roc (by simp) (by assumption) | (apply Rd.rocN (by simp); assumption; rfl)) (by decide) ?_
                  refine XK.nil ?_; refine XK.thenN ?_; refine XA.backT rfl ?_
                  refine XA.next 15 rfl (by kernel_rfl) ?_
                  refine xk_guardT rfl rfl ?_; refine xk_callR (f := 104) (fi := []) (ca := []) (by kernel_rfl) rfl rfl (by decide) (fun w1 st => asleep_any gc x.c.asl w1 (CntH.roc (st.sat (i := 1) rfl))) ?_
                  refine XK.nil ?_; refine XK.thenN ?_; refine XA.backT rfl ?_
                  refine XA.next 16 rfl (by kernel_rfl) ?_
                  (first | refine xk_pickT rfl rfl (by decide) ?_ | refine xk_pickF rfl rfl (by decide) ?_)
                  refine XK.nil ?_; refine XK.thenN ?_; refine XA.backT rfl ?_
                  refine XA.done (by kernel_rfl) ?_
                  (repeat (first | refine XK.thenN ?_ | refine XK.thenE ?_ | refine XK.thenR ?_ | refine XK.inN ?_ | refine XK.inE ?_ | refine XK.inR ?_ | refine XK.inF rfl ?_))
                  exact XK.meetB (by repeat (first | exact trivial | refine ⟨rfl, ?_⟩)) (by show some (Value.bool x.c.asl) = some (Value.bool (decide _)); congr 2; simp [hva, hg])
              refine XK.if_ rfl (fun h => ?_) (fun h => ?_)
              ·
                refine XK.seq ?_

                refine XK.region ?_
                refine xk_assign rfl (by decide) ?_
                refine XK.nil ?_
                (repeat (first | refine XK.thenN ?_ | refine XK.thenE ?_ | refine XK.thenR ?_ | refine XK.inN ?_ | refine XK.inE ?_ | refine XK.inR ?_ | refine XK.inF rfl ?_))
                refine XK.ret ?_
                (repeat (first | refine XK.thenN ?_ | refine XK.thenE ?_ | refine XK.thenR ?_ | refine XK.inN ?_ | refine XK.inE ?_ | refine XK.inR ?_ | refine XK.inF rfl ?_))
                have hr : effF devs x t ck dev reg = (6, x) := by unfold effF; simp_all
                refine XK.weak [1, 2, 3] rfl (by decide) (fun _ hp => hp) ?_
                refine XK.give 1 1 rfl rfl ?_
                dsimp only [List.set]
                refine XK.give 0 0 rfl rfl ?_
                dsimp only [List.set]
                refine XK.ret1 rfl rfl fun w1 st => ?_
                rw [hr]
                exact ⟨rfl, st.turns hF (by simp) (i := 0) rfl⟩
              ·
                refine XK.skip ?_
                (repeat (first | refine XK.thenN ?_ | refine XK.thenE ?_ | refine XK.thenR ?_ | refine XK.inN ?_ | refine XK.inE ?_ | refine XK.inR ?_ | refine XK.inF rfl ?_))
                refine XK.seq ?_

                refine XK.region ?_
                refine xk_assign rfl (by decide) ?_
                refine XK.nil ?_
                (repeat (first | refine XK.thenN ?_ | refine XK.thenE ?_ | refine XK.thenR ?_ | refine XK.inN ?_ | refine XK.inE ?_ | refine XK.inR ?_ | refine XK.inF rfl ?_))
                refine XK.ret ?_
                (repeat (first | refine XK.thenN ?_ | refine XK.thenE ?_ | refine XK.thenR ?_ | refine XK.inN ?_ | refine XK.inE ?_ | refine XK.inR ?_ | refine XK.inF rfl ?_))
                have hr : effF devs x t ck dev reg = (0, x) := by unfold effF; simp_all
                refine XK.weak [1, 2, 3] rfl (by decide) (fun _ hp => hp) ?_
                refine XK.give 1 1 rfl rfl ?_
                dsimp only [List.set]
                refine XK.give 0 0 rfl rfl ?_
                dsimp only [List.set]
                refine XK.ret1 rfl rfl fun w1 st => ?_
                rw [hr]
                exact ⟨rfl, st.turns hF (by simp) (i := 0) rfl⟩
          ·
            refine XK.skip ?_
            (repeat (first | refine XK.thenN ?_ | refine XK.thenE ?_ | refine XK.thenR ?_ | refine XK.inN ?_ | refine XK.inE ?_ | refine XK.inR ?_ | refine XK.inF rfl ?_))
            refine XK.seq ?_

            refine XK.region ?_
            refine xk_assign rfl (by decide) ?_
            refine XK.nil ?_
            (repeat (first | refine XK.thenN ?_ | refine XK.thenE ?_ | refine XK.thenR ?_ | refine XK.inN ?_ | refine XK.inE ?_ | refine XK.inR ?_ | refine XK.inF rfl ?_))
            refine XK.ret ?_
            (repeat (first | refine XK.thenN ?_ | refine XK.thenE ?_ | refine XK.thenR ?_ | refine XK.inN ?_ | refine XK.inE ?_ | refine XK.inR ?_ | refine XK.inF rfl ?_))
            have hr : effF devs x t ck dev reg = (0, x) := by unfold effF; simp_all
            refine XK.weak [1, 2, 3] rfl (by decide) (fun _ hp => hp) ?_
            refine XK.give 1 1 rfl rfl ?_
            dsimp only [List.set]
            refine XK.give 0 0 rfl rfl ?_
            dsimp only [List.set]
            refine XK.ret1 rfl rfl fun w1 st => ?_
            rw [hr]
            exact ⟨rfl, st.turns hF (by simp) (i := 0) rfl⟩

end Go.Proofs.Ytbgibbbggajgaaa
