/- plan: the iterator that goes through all rows of steps. -/
import Derived.Test.YtbgibbbggajgaaaPlan2
namespace Go.Proofs.Ytbgibbbggajgaaa
set_option linter.all false
open Go.RowKit
attribute [local irreducible] KC KI KQ
structure Stp where
  pr : Int
  msg : Int
  id : Int
  v : Int
def Stp.cells (s : Stp) : List Value := [.int .i64 s.pr, .int .i64 s.msg, .int .u32 s.id, .int .u32 s.v]
def stV (s : Stp) : Value := .agg s.cells.toArray
def stEnc (l : List Stp) : List (List Value) := l.map fun s => [stV s]
def stepL (pr msg : Int) (val : Nat → Int) (ids : List Nat) : List Stp := ids.map fun (i : Nat) => ⟨pr, msg, i, val i⟩
theorem stepCells_eq (pr msg : Int) (val : Nat → Int) (ids : List Nat) : stepCells pr msg val ids = stEnc (stepL pr msg val ids) := by
  simp [stepCells, stEnc, stepL, stV, StepV, Stp.cells]
/-- one row of steps: its iterator -/
structure RowI where
  gf : FuncId
  lb : List Value
  sts : List Stp
def RowI.fn (r : RowI) : Value := .func (.func r.gf) #[] r.lb.toArray
def rowsL (rows : List RowI) : List Stp := rows.flatMap (·.sts)
def offR (rows : List RowI) (i : Nat) : Nat := (rowsL (rows.take i)).length
theorem offR_next {rows : List RowI} {i : Nat} {r : RowI} (h : rows[i]? = some r) : offR rows (i + 1) = offR rows i + r.sts.length := by
  simp [offR, rowsL, List.take_add_one, h]
theorem offR_get {rows : List RowI} {i k : Nat} {r : RowI} {s : Stp} (h : rows[i]? = some r) (hs : r.sts[k]? = some s) : (rowsL rows)[offR rows i + k]? = some s := by
  have hlt := (List.getElem?_eq_some_iff.1 h).1
  have hv := (List.getElem?_eq_some_iff.1 h).2
  have h2 : rows = rows.take i ++ r :: rows.drop (i + 1) := by
    rw [← hv, List.getElem_cons_drop hlt, List.take_append_drop]
  have h3 : rowsL rows = rowsL (rows.take i) ++ (r.sts ++ rowsL (rows.drop (i + 1))) := by
    conv => lhs; rw [h2]
    simp [rowsL]
  have hk := (List.getElem?_eq_some_iff.1 hs).1
  rw [h3, offR, List.getElem?_append_right (by omega), Nat.add_sub_cancel_left, List.getElem?_append_left hk]
  exact hs
theorem offR_all {rows : List RowI} {i : Nat} (h : rows.length ≤ i) : offR rows i = (rowsL rows).length := by rw [offR, List.take_of_length_le h]

theorem all2_iter (p : Piece) (g1 n c : Nat) (A : Option Addr) (rows : List RowI) (h1 : RP p g1 0 (.slice A n c)) (hs : SlS p 1 A n (rows.map RowI.fn)) (hn : n = rows.length) (hn2 : (n : Int) ≤ 1000000)
    (hrows : ∀ r ∈ rows, callB Try.prog r.gf = true ∧ Iter Try.prog r.gf r.lb (stEnc r.sts) p) :
    Iter Try.prog 99 [.pointer (some ⟨g1, 0, none⟩)] (stEnc (rowsL rows)) p := by
  unfold Iter
  intro l J Jx W F hp hd hJ hF hY
  refine XC.enter (vs := [.func (.yield l) #[] #[], .pointer (some ⟨g1, 0, none⟩)]) Try.func99 rfl Try.ntmps99 (by simp) (St.iter hp hd hJ hF) ?_
  dsimp only [List.cons_append, List.nil_append]
  refine XC.seq ?_

  refine XC.regionW (by kernel_rfl) ?_
  refine xk_box rfl (by decide) fun g2 => ?_
  refine XC.endW ?_
  (repeat (first | refine XC.thenN ?_ | refine XC.thenE ?_ | refine XC.thenR ?_ | refine XC.inN ?_ | refine XC.inE ?_ | refine XC.inR ?_ | refine XC.inF rfl ?_))
  refine XC.seq ?_

  refine XC.regionW (by kernel_rfl) ?_
  refine xk_load (by kernel_rfl) rfl (h1.rd (by simp)) (by decide) ?_
  refine xk_len (el := 111) (by kernel_rfl) rfl (by decide) ?_
  refine xk_move rfl (by decide) ?_
  refine XC.endW ?_
  (repeat (first | refine XC.thenN ?_ | refine XC.thenE ?_ | refine XC.thenR ?_ | refine XC.inN ?_ | refine XC.inE ?_ | refine XC.inR ?_ | refine XC.inF rfl ?_))
  refine XK.env [(8, .int .i64 0), (7, .int .i64 n), (6, .slice A n c), (2, .pointer (some ⟨g2, 0, none⟩))] ⟨rfl, rfl, rfl, rfl, trivial⟩ ?_
  refine XC.block ?_
  refine XC.loop (fun m L e R H => ∃ i : Nat, i ≤ n ∧ m = n - i ∧ e = [(8, .int .i64 i), (7, .int .i64 n), (6, .slice A n c), (2, .pointer (some ⟨g2, 0, none⟩))] ∧ R = [p, nt W F] ∧ H = [HP.blk g2 167 [.func (.yield l) #[] #[]], J (offR rows i), HP.marks L]) n ⟨0, by omega, rfl, rfl, rfl, rfl⟩ fun m L e R H hI => ?_
  obtain ⟨i, hi, rfl, rfl, rfl, rfl⟩ := hI
  refine XC.seq ?_

  refine XC.regionW (by kernel_rfl) ?_
  refine xk_lss rfl rfl (by decide) ?_
  refine XC.endW ?_
  (repeat (first | refine XC.thenN ?_ | refine XC.thenE ?_ | refine XC.thenR ?_ | refine XC.inN ?_ | refine XC.inE ?_ | refine XC.inR ?_ | refine XC.inF rfl ?_))
  refine XC.seq ?_
  refine XC.if_ rfl (fun h => ?_) (fun h => ?_)
  ·
    refine XC.skip ?_
    (repeat (first | refine XC.thenN ?_ | refine XC.thenE ?_ | refine XC.thenR ?_ | refine XC.inN ?_ | refine XC.inE ?_ | refine XC.inR ?_ | refine XC.inF rfl ?_))
    refine XC.seq ?_
    refine XC.block ?_
    refine XC.seq ?_
    have hin : i < rows.length := by omega
    obtain ⟨b, off, rfl, hz, hc⟩ := hs.2 (by omega)
    obtain ⟨r, hr⟩ : ∃ r, rows[i]? = some r := ⟨_, List.getElem?_eq_getElem hin⟩
    obtain ⟨hcb, hit⟩ := hrows r (List.mem_of_getElem? hr)
    have hoff := offR_next hr

    refine XC.regionW (by kernel_rfl) ?_
    refine xk_at (i) (off + i) (el := 111) (sz := 1) (by kernel_rfl) (by kernel_rfl) rfl rfl (by omega) (by omega) (by omega) (by decide) ?_
    refine xk_load (by kernel_rfl) rfl (Rd.ro (p := p) (by simp) hz (hc i (RowI.fn r) (by simp [hr]))) (by decide) ?_
    refine xk_assign rfl (by decide) ?_
    refine XC.endW ?_
    (repeat (first | refine XC.thenN ?_ | refine XC.thenE ?_ | refine XC.thenR ?_ | refine XC.inN ?_ | refine XC.inE ?_ | refine XC.inR ?_ | refine XC.inF rfl ?_))
    refine XC.seq ?_

    refine XC.regionW (by kernel_rfl) ?_
    refine xk_move rfl (by decide) ?_
    refine XC.endW ?_
    (repeat (first | refine XC.thenN ?_ | refine XC.thenE ?_ | refine XC.thenR ?_ | refine XC.inN ?_ | refine XC.inE ?_ | refine XC.inR ?_ | refine XC.inF rfl ?_))
    refine XC.block ?_
    refine XK.env [(12, RowI.fn r), (8, .int .i64 i), (7, .int .i64 n), (6, .slice (some ⟨b, off, none⟩) n c), (2, .pointer (some ⟨g2, 0, none⟩))] ⟨rfl, rfl, rfl, rfl, rfl, trivial⟩ ?_
    refine XC.range (gf := r.gf) (lb := r.lb) (encs := stEnc r.sts) (p := p) rfl hcb hit (by simp) (fun vs hvs => ?_) (by decide) (fun k => [HP.blk g2 167 [.func (.yield l) #[] #[]], J (offR rows i + k)]) (fun k => [HP.blk g2 167 [.func (.yield l) #[] #[]], Jx (offR rows i + k)])
      (fun k vs e1 H1 => ∃ (g3 : Nat) (s : Stp), vs = [stV s] ∧ e1 = [(5, .pointer (some ⟨g3, 0, none⟩)), (2, .pointer (some ⟨g2, 0, none⟩))] ∧ H1 = [HP.blk g3 59 s.cells, HP.blk g2 167 [.func (.yield l) #[] #[]], J (offR rows i + k)]) rfl ?_ ?_ ?_ ?_
    · simp only [stEnc, List.mem_map] at hvs
      obtain ⟨s, _, rfl⟩ := hvs
      rfl
    ·
      intro l2 k vs W1 q X hvs hsm
      obtain ⟨s, rfl⟩ : ∃ s, vs = [stV s] := by
        simp only [stEnc, List.getElem?_map, Option.map_eq_some_iff] at hvs
        obtain ⟨s, _, e⟩ := hvs
        exact ⟨s, e.symm⟩
      dsimp only [List.cons_append, List.nil_append]
      refine XC.regionW (by kernel_rfl) ?_
      refine xk_alloc (cs := [.int .i64 0, .int .i64 0, .int .u32 0, .int .u32 0]) (zeroB_of (by kernel_rfl)) (by decide) fun g3 => ?_
      refine xk_storeN 0 rfl rfl rfl (by kernel_rfl) (by simp [stV, Stp.cells, Value.cells, Value.oneCell']) (by simp [stV, Stp.cells, Value.cells]) ?_
      rw [show putN [Value.int .i64 0, .int .i64 0, .int .u32 0, .int .u32 0] 0 (stV s).cells.toList = s.cells by simp [putN, stV, Stp.cells, Value.cells]]
      dsimp only [List.set]
      refine XC.endW ?_
      refine XK.env [(5, .pointer (some ⟨g3, 0, none⟩)), (2, .pointer (some ⟨g2, 0, none⟩))] ⟨rfl, rfl, trivial⟩ ?_
      exact XC.assigned (H1 := [HP.blk g3 59 s.cells, HP.blk g2 167 [.func (.yield l) #[] #[]], J (offR rows i + k)]) ⟨g3, s, rfl, rfl, rfl⟩
    ·
      rintro l2 k vs W1 q X _ _ hvs hsm ⟨g3, s, rfl, rfl, rfl⟩
      have hsk : r.sts[k]? = some s := by
        simp only [stEnc, List.getElem?_map, Option.map_eq_some_iff] at hvs
        obtain ⟨s', h, e⟩ := hvs
        have : s' = s := by
          cases s; cases s'
          simp [stV, Stp.cells] at e
          simp [e]
        exact this ▸ h
      have hget := offR_get hr hsk
      dsimp only [List.cons_append, List.nil_append]
      refine XC.block ?_
      refine XC.seq ?_
      refine XC.region ?_
      refine XI.op (by kernel_rfl) ?_; refine xk_load (by kernel_rfl) rfl (Rd.blk 1 rfl rfl) (by decide) ?_; refine XI.back ?_
      refine XI.op (by kernel_rfl) ?_; refine xk_loadN 4 (by kernel_rfl) rfl (RdN.whole 0 rfl) rfl (by decide) ?_; refine XI.back ?_
      refine XI.yield 2 rfl rfl (by decide) (by simp : nt W F ∈ [p, nt W F, q]) hsm rfl (fun W2 F2 h1 h2 h3 => hY (offR rows i + k) [stV s] W2 F2 (by simp [stEnc, hget]) h1 h2 h3) ?_ ?_
      · dsimp only [List.set]
        refine XI.op (by kernel_rfl) ?_; refine xk_not rfl (by decide) ?_; refine XI.back ?_
        refine XI.nil ?_
        (repeat (first | refine XC.thenN ?_ | refine XC.thenE ?_ | refine XC.thenR ?_ | refine XC.inN ?_ | refine XC.inE ?_ | refine XC.inR ?_ | refine XC.inF rfl ?_))
        refine XC.cond rfl (fun h => by cases h) (fun _ => ?_)
        refine XC.skip ?_
        (repeat (first | refine XC.thenN ?_ | refine XC.thenE ?_ | refine XC.thenR ?_ | refine XC.inN ?_ | refine XC.inE ?_ | refine XC.inR ?_ | refine XC.inF rfl ?_))
        refine XK.weak [1, 2, 3] rfl (by decide) (fun _ hp => hp) ?_
        exact XC.bodyN
      · dsimp only [List.set]
        refine XI.op (by kernel_rfl) ?_; refine xk_not rfl (by decide) ?_; refine XI.back ?_
        refine XI.nil ?_
        (repeat (first | refine XC.thenN ?_ | refine XC.thenE ?_ | refine XC.thenR ?_ | refine XC.inN ?_ | refine XC.inE ?_ | refine XC.inR ?_ | refine XC.inF rfl ?_))
        refine XC.cond rfl (fun _ => ?_) (fun h => by cases h)
        refine XC.ret ?_
        (repeat (first | refine XC.thenN ?_ | refine XC.thenE ?_ | refine XC.thenR ?_ | refine XC.inN ?_ | refine XC.inE ?_ | refine XC.inR ?_ | refine XC.inF rfl ?_))
        refine XK.weak [1, 2, 3] rfl (by decide) (fun _ hp => hp) ?_
        exact XC.bodyR
    rotate_left
    ·
      intro D k hk
      dsimp only [List.cons_append, List.nil_append]
      refine XC.ret ?_
      (repeat (first | refine XC.thenN ?_ | refine XC.thenE ?_ | refine XC.thenR ?_ | refine XC.inN ?_ | refine XC.inE ?_ | refine XC.inR ?_ | refine XC.inF rfl ?_))
      refine XC.ret0 (Hs := [HP.blk g2 167 [.func (.yield l) #[] #[]], Jx (offR rows i + (k + 1))]) (.inl rfl) rfl fun w1 st => ?_
      obtain ⟨F', h1, h2⟩ := st.turns hF (by simp [nt]) (i := 1) rfl
      obtain ⟨s, hs2⟩ : ∃ s, r.sts[k]? = some s := ⟨_, List.getElem?_eq_getElem (by simpa [stEnc] using hk)⟩
      have := (List.getElem?_eq_some_iff.1 (offR_get hr hs2)).1
      exact ⟨⟨_, rfl⟩, F', h2, .inr ⟨offR rows i + k, by simpa [stEnc] using this, h1⟩⟩
    intro D
    dsimp only [List.cons_append, List.nil_append]
    (repeat (first | refine XC.thenN ?_ | refine XC.thenE ?_ | refine XC.thenR ?_ | refine XC.inN ?_ | refine XC.inE ?_ | refine XC.inR ?_ | refine XC.inF rfl ?_))

    refine XC.regionW (by kernel_rfl) ?_
    refine xk_add rfl rfl (wrap_in (by omega)) (by decide) ?_
    refine xk_move rfl (by decide) ?_
    refine XC.endW ?_
    (repeat (first | refine XC.thenN ?_ | refine XC.thenE ?_ | refine XC.thenR ?_ | refine XC.inN ?_ | refine XC.inE ?_ | refine XC.inR ?_ | refine XC.inF rfl ?_))
    exact XK.env [(8, .int .i64 (i + 1)), (7, .int .i64 n), (6, .slice (some ⟨b, off, none⟩) n c), (2, .pointer (some ⟨g2, 0, none⟩))] ⟨rfl, rfl, rfl, rfl, trivial⟩ (XC.round (n - (i + 1)) (by omega) ⟨i + 1, by omega, rfl, rfl, rfl, by rw [hoff]; simp [stEnc]⟩)
  ·
    refine XC.exit ?_
    (repeat (first | refine XC.thenN ?_ | refine XC.thenE ?_ | refine XC.thenR ?_ | refine XC.inN ?_ | refine XC.inE ?_ | refine XC.inR ?_ | refine XC.inF rfl ?_))
    refine XC.ret0 (Hs := [HP.blk g2 167 [.func (.yield l) #[] #[]], J (offR rows i)]) (.inr rfl) rfl fun w1 st => ?_
    obtain ⟨F', h1, h2⟩ := st.turns hF (by simp [nt]) (i := 1) rfl
    rw [offR_all (by omega)] at h1
    exact ⟨⟨_, rfl⟩, F', h2, .inl (by simpa [stEnc] using h1)⟩

def retV (s : Soc) (d : Nat) : Int := if (s.domains[d]?.map (·.ret)).getD false then 2 else 0
theorem all1_any (d gs n2 k2 : Nat) (s : Soc) (A2 : Option Addr) (w : World) (h2 : ROc w gs 1 (.slice A2 n2 k2)) (hdom : RsR (slq (all w)) DomR 61 3 A2 n2 s.domains) (hn2 : (n2 : Int) ≤ 1000000) (hd : d < n2) :
    Calls Try.prog 98 #[.int .i64 d, .pointer (some ⟨gs, 0, none⟩)] w (Rt (.int .u32 (retV s d)) w) := by
  have hl : n2 = s.domains.length := by obtain ⟨_, _, h, _⟩ := hdom; exact h
  obtain ⟨x, hx⟩ : ∃ x, s.domains[d]? = some x := ⟨_, List.getElem?_eq_getElem (by omega)⟩
  obtain ⟨b, off, r, rfl, hrl, rfl, hro⟩ := hdom.row hx
  refine XK.enter (vs := [.int .i64 d, .pointer (some ⟨gs, 0, none⟩)]) Try.func98 rfl Try.ntmps98 (by simp) ?_
  refine XK.seq ?_

  refine XK.region ?_
  refine xk_assign rfl (by decide) ?_
  refine XK.nil ?_
  (repeat (first | refine XK.thenN ?_ | refine XK.thenE ?_ | refine XK.thenR ?_ | refine XK.inN ?_ | refine XK.inE ?_ | refine XK.inR ?_ | refine XK.inF rfl ?_))
  refine XK.seq ?_
  refine XK.seq ?_

  refine XK.region ?_
  refine xk_field (off := 1) (by kernel_rfl) rfl (by decide) ?_
  refine xk_load (by kernel_rfl) rfl (Rd.roc (by simp) h2) (by decide) ?_
  refine xk_move rfl (by decide) ?_
  refine xk_at (d) (off + d * 3) (el := 61) (sz := 3) (by kernel_rfl) (by kernel_rfl) rfl rfl (by omega) (by omega) (by omega) (by decide) ?_
  refine xk_field (off := 2) (by kernel_rfl) rfl (by decide) ?_
  refine xk_load (by kernel_rfl) rfl (Rd.roc (by simp) (hro.at_ (j := 2) (v := .bool x.ret) rfl)) (by decide) ?_
  refine XK.nil ?_
  (repeat (first | refine XK.thenN ?_ | refine XK.thenE ?_ | refine XK.thenR ?_ | refine XK.inN ?_ | refine XK.inE ?_ | refine XK.inR ?_ | refine XK.inF rfl ?_))
  refine XK.cond rfl (fun h => ?_) (fun h => ?_)
  ·
    refine XK.seq ?_

    refine XK.region ?_
    refine xk_assign rfl (by decide) ?_
    refine XK.nil ?_
    (repeat (first | refine XK.thenN ?_ | refine XK.thenE ?_ | refine XK.thenR ?_ | refine XK.inN ?_ | refine XK.inE ?_ | refine XK.inR ?_ | refine XK.inF rfl ?_))
    refine XK.ret ?_
    (repeat (first | refine XK.thenN ?_ | refine XK.thenE ?_ | refine XK.thenR ?_ | refine XK.inN ?_ | refine XK.inE ?_ | refine XK.inR ?_ | refine XK.inF rfl ?_))
    exact XK.ret1 rfl rfl fun w1 st => ⟨by rw [retV, hx]; simp [h], st.below (by simp)⟩
  ·
    refine XK.skip ?_
    (repeat (first | refine XK.thenN ?_ | refine XK.thenE ?_ | refine XK.thenR ?_ | refine XK.inN ?_ | refine XK.inE ?_ | refine XK.inR ?_ | refine XK.inF rfl ?_))
    refine XK.seq ?_

    refine XK.region ?_
    refine xk_assign rfl (by decide) ?_
    refine XK.nil ?_
    (repeat (first | refine XK.thenN ?_ | refine XK.thenE ?_ | refine XK.thenR ?_ | refine XK.inN ?_ | refine XK.inE ?_ | refine XK.inR ?_ | refine XK.inF rfl ?_))
    refine XK.ret ?_
    (repeat (first | refine XK.thenN ?_ | refine XK.thenE ?_ | refine XK.thenR ?_ | refine XK.inN ?_ | refine XK.inE ?_ | refine XK.inR ?_ | refine XK.inF rfl ?_))
    exact XK.ret1 rfl rfl fun w1 st => ⟨by rw [retV, hx]; simp [h], st.below (by simp)⟩
theorem all1_ok (p : Piece) (gs n2 k2 : Nat) (s : Soc) (A2 : Option Addr) (h2 : RP p gs 1 (.slice A2 n2 k2)) (hdom : RsR (slq p) DomR 61 3 A2 n2 s.domains) (hn2 : (n2 : Int) ≤ 1000000) (ids : List Nat) (hids : ∀ i ∈ ids, i < n2) : ValOk p 98 [.pointer (some ⟨gs, 0, none⟩)] ids (retV s) := fun i hi w' hw' =>
  all1_any i gs n2 k2 s A2 w' (h2.le hw') (hdom.mono (slq_le hw') (fun _ _ h => h)) hn2 (hids i hi)

end Go.Proofs.Ytbgibbbggajgaaa
