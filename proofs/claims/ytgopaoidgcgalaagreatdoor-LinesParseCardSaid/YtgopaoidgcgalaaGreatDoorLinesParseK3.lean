/- The reference's order of any graph, as far as it goes, and its Check. -/
import Derived.Laws.Build
import Derived.Laws.Concat
import Derived.Laws.Strings2
import Derived.Laws.StructEq
import Derived.Lib.AppendIntMem
import Derived.Lib.AppendStr
import Derived.Lib.Builder
import Derived.Lib.ItoaMem
import Derived.Lib.ItoaNum
import Derived.Lib.Join
import Derived.Lib.Split
import Derived.Recover
import Derived.Shelf.LaysM
import Derived.Shelf.Strings.Builder1
import Derived.Shelf.Strings.Count
import Derived.Shelf.Strings.Cut
import Derived.Shelf.Strings.Search1
import Derived.Shelf.Strings.Search2
import Derived.Shelf.Strings.Search3
import Derived.Shelf.Strings.Shaped
import Derived.Shelf.Strings.Split
import Derived.Shelf.Unicode.DecodeSlow
import Derived.Tactics2
import Derived.Test.YtgopaoidgcgalaaGreatDoorProg
import Derived.WalkSmall
import Derived.Test.YtgopaoidgcgalaaGreatDoorLinesParseK2
namespace Go.Proofs.YtgopaoidgcgalaaGreatDoor
set_option linter.all false
open Go.RowKit
theorem SlS.intR {w : World} {A : Option Addr} {n : Nat} {l : List Int} (h : SlS (all w) 1 A n (intCells l)) (hn : 0 < n) : ∃ b off, A = some ⟨b, off, none⟩ ∧ ∀ (i : Nat) (x : Int), l[i]? = some x → ROc w b (off + i) (.int .i64 x) := by
  obtain ⟨b, off, hA, hb, hc⟩ := h.2 hn
  refine ⟨b, off, hA, fun i x hx => ⟨hb, hc i _ ?_⟩⟩
  simp only [intCells, List.getElem?_map, hx, Option.map_some]
/-- those of M are done -/
def doneM (n : Nat) (M : List Nat) : List Value := (List.range n).map fun v => .bool (M.contains v)
theorem doneM_len (n : Nat) (M : List Nat) : (doneM n M).length = n := by simp [doneM]
theorem doneM_at {n v : Nat} (M : List Nat) (h : v < n) : (doneM n M)[v]? = some (.bool (M.contains v)) := by simp [doneM, h]
theorem doneM_set {n v : Nat} (M : List Nat) (h : v < n) : (doneM n M).set v (.bool true) = doneM n (M ++ [v]) := by
  apply List.ext_getElem?
  intro i
  by_cases hi : i < n
  · rw [doneM_at _ hi]
    by_cases hv : v = i
    · subst hv
      rw [List.getElem?_set_self (by rw [doneM_len]; exact h)]
      simp
    · rw [List.getElem?_set_ne hv, doneM_at _ hi]
      simp [Ne.symm hv]
  · rw [List.getElem?_eq_none (by rw [List.length_set, doneM_len]; omega), List.getElem?_eq_none (by rw [doneM_len]; omega)]
theorem doneM_nil (n : Nat) : List.replicate n (Value.bool false) = doneM n [] := by
  apply List.ext_getElem?
  intro i
  by_cases hi : i < n
  · rw [doneM_at _ hi]; simp [hi]
  · rw [List.getElem?_eq_none (by simp; omega), List.getElem?_eq_none (by rw [doneM_len]; omega)]
theorem nodup_le : ∀ (n : Nat) (M : List Nat), M.Nodup → (∀ x ∈ M, x < n) → M.length ≤ n
  | 0, M, _, h => by
    cases M with
    | nil => exact Nat.le_refl _
    | cons x M => exact absurd (h x (by simp)) (by omega)
  | n + 1, M, hn, h => by
    have h1 := List.length_eq_countP_add_countP (fun x => x == n) (l := M)
    have h2 : List.countP (fun x => x == n) M ≤ 1 := by
      rw [show List.countP (fun x => x == n) M = M.count n from rfl, hn.count]
      split <;> omega
    have h3 := nodup_le n (M.filter fun x => !(x == n)) (List.Pairwise.filter _ hn) (fun x hx => by
      rw [List.mem_filter] at hx
      have h4 := h x hx.1
      have h5 : ¬ x = n := by simpa using hx.2
      omega)
    rw [← List.countP_eq_length_filter] at h3
    have h6 : List.countP (fun a => decide ¬(a == n) = true) M = List.countP (fun x => !(x == n)) M := by
      congr 1; funext x
      by_cases hx : x = n <;> simp [hx]
    omega
/-- what the reference has so far -/
structure Got (g : List (List Int)) (M : List Nat) : Prop where
  nodup : M.Nodup
  lt : ∀ x ∈ M, x < g.length
  go : orderG g (g.length - M.length) M = orderG g g.length []
theorem Got.len {g : List (List Int)} {M : List Nat} (h : Got g M) : M.length ≤ g.length := nodup_le _ _ h.nodup h.lt
theorem Got.start (g : List (List Int)) : Got g [] := ⟨List.nodup_nil, by simp, by simp⟩
theorem okN_has {g : List (List Int)} {M : List Nat} {v : Nat} (h : okN g M v = true) : M.contains v = false := by
  cases hc : M.contains v with
  | false => rfl
  | true => rw [okN_met hc] at h; cases h
theorem Got.next {g : List (List Int)} {M : List Nat} {v : Nat} (h : Got g M) (hv : v < g.length) (hj : ∀ j, j < v → okN g M j = false) (hk : okN g M v = true) : Got g (M ++ [v]) ∧ M.length + 1 ≤ g.length := by
  have hnx := nextG_some hv hj hk
  have hnm : v ∉ M := by have := okN_has hk; simpa using this
  have hnd : (M ++ [v]).Nodup := by
    rw [List.nodup_append]
    exact ⟨h.nodup, by simp, fun a ha b hb => by simp at hb; subst hb; rintro rfl; exact hnm ha⟩
  have hlt : ∀ x ∈ M ++ [v], x < g.length := fun x hx => by
    rcases List.mem_append.1 hx with hx | hx
    · exact h.lt x hx
    · simp at hx; omega
  have hle := nodup_le _ _ hnd hlt
  rw [List.length_append, List.length_singleton] at hle
  refine ⟨⟨hnd, hlt, ?_⟩, hle⟩
  rw [← h.go, List.length_append, List.length_singleton, show g.length - M.length = (g.length - (M.length + 1)) + 1 by omega, orderG_step hnx]
theorem Got.ends {g : List (List Int)} {M : List Nat} (h : Got g M) (hg : InG g) (hn : g.length ≤ 100) (hx : nextG g M = none) : cycE g = if M.length < g.length then 5 else 0 := by
  have hnum : numbersG g = 0 := by
    unfold numbersG
    rw [if_neg (by omega), badG_no (fun k l hk j u hj => hg l (List.mem_of_getElem? hk) u (List.mem_of_getElem? hj))]
    rfl
  have hle := h.len
  unfold cycE orderE
  rw [if_neg (by rw [hnum]; simp), ← h.go]
  by_cases hlt : M.length < g.length
  · rw [if_pos hlt, show g.length - M.length = (g.length - (M.length + 1)) + 1 by omega, orderG_stop hx]
    rfl
  · rw [if_neg hlt, show g.length - M.length = 0 by omega]
    rfl
theorem okN_row {g : List (List Int)} {M : List Nat} {v : Nat} {l : List Int} (h : g[v]? = some l) : okN g M v = (!(M.contains v) && l.all fun u => M.contains u.toNat) := by
  unfold okN
  rw [h]
  rfl
theorem all_next {l : List Int} {i : Nat} {y : Int} {f : Int → Bool} (h : l[i]? = some y) : (l.take (i + 1)).all f = ((l.take i).all f && f y) := by
  rw [List.take_add_one, h]
  simp
def gotV (g : List (List Int)) (v : Value) (w w' : World) : Prop := ∃ A c M, v = .slice A M.length c ∧ SlS (fresh w w') 1 A M.length (intCells (natI M)) ∧ Got g M ∧ nextG g M = none

theorem refOrderG_any (A : Option Addr) (n c : Nat) (g : List (List Int)) (w : World) (hg : GrS (all w) A n g) (hn : n = g.length) (hn2 : n ≤ 100) (hg2 : ∀ l ∈ g, l.length ≤ 1000000) (hin0 : InG g) :
    Calls Tryz.prog 139 #[.slice A n c] w (fun y w' => (∃ v, y = .returned v ∧ gotV g v w w') ∧ Below w.heap.size w w') := by
  refine XK.enter (vs := [.slice A n c]) Tryz.func139 rfl Tryz.ntmps139 (by simp) ?_
  refine XK.seq ?_

  refine XK.region ?_
  refine xk_assign rfl (by decide) ?_
  refine XK.nilN ?_
  refine XK.seq ?_

  refine XK.region ?_
  refine xk_assign rfl (by decide) ?_
  refine XK.nilN ?_
  refine XK.seq ?_

  refine XK.region ?_
  refine xk_move rfl (by decide) ?_
  refine xk_len (el := 40) (by kernel_rfl) rfl (by decide) ?_
  refine XK.nilrow 3 1 ?_
  refine xk_makeT 1 (n := n) (el := 4) (z := .bool false) (by kernel_rfl) (by kernel_rfl) rfl rfl rfl (by omega) (by omega) (by decide) fun g1 => ?_
  rw [doneM_nil]
  refine xk_assign rfl (by decide) ?_
  refine XK.nilN ?_
  refine XK.seq ?_

  refine XK.region ?_
  refine xk_assign rfl (by decide) ?_
  refine XK.nilN ?_
  refine XK.seq ?_
  refine XK.envS [(5, .bool true), (4, .slice (some ⟨g1, 0, none⟩) n n), (3, .slice none 0 0), (0, .slice A n c)] ?_
  refine XK.block ?_
  refine XK.loop (fun m e R H => ∃ (M : List Nat) (mo : Bool) (Ao : Option Addr) (co : Nat), Got g M ∧ (mo = false → nextG g M = none) ∧ m = 2 * (n - M.length) + mo.toNat ∧ e = [(5, .bool mo), (4, .slice (some ⟨g1, 0, none⟩) n n), (3, .slice Ao M.length co), (0, .slice A n c)] ∧ R = [all w] ∧ H = [HP.blk g1 4 (doneM n M), HP.own 3 1 (.slice Ao M.length co) M.length (intCells (natI M))]) (2 * n + 1) ⟨[], true, none, 0, Got.start g, (fun h => by cases h), by simp, rfl, rfl, by simp [intCells, natI]⟩ fun m e R H hI => ?_
  obtain ⟨M, mo, Ao, co, hgot, hmo, rfl, rfl, rfl, rfl⟩ := hI
  refine XK.seq ?_
  refine XK.seq ?_

  refine XK.region ?_
  refine xk_move rfl (by decide) ?_
  refine XK.nilN ?_
  refine XK.cond rfl (fun h => ?_) (fun h => ?_)
  ·
    refine XK.skip ?_
    refine XK.norm ?_
    refine XK.block ?_
    refine XK.seq ?_
    subst h
    have hMl := hgot.len

    refine XK.region ?_
    refine xk_assign rfl (by decide) ?_
    refine XK.nilN ?_
    refine XK.seq ?_

    refine XK.region ?_
    refine xk_assign rfl (by decide) ?_
    refine XK.nilN ?_
    refine XK.envS [(6, .int .i64 0), (5, .bool false), (4, .slice (some ⟨g1, 0, none⟩) n n), (3, .slice Ao M.length co), (0, .slice A n c)] ?_
    refine XK.block ?_
    refine XK.loop (fun m e R H => ∃ (v : Nat) (mi : Bool) (MM : List Nat) (Ao : Option Addr) (co : Nat), v ≤ n ∧ ((mi = false ∧ MM = M ∧ ∀ j, j < v → okN g M j = false) ∨ (mi = true ∧ Got g MM ∧ MM.length = M.length + 1 ∧ MM.length ≤ n)) ∧ m = n - v ∧ e = [(6, .int .i64 v), (5, .bool mi), (4, .slice (some ⟨g1, 0, none⟩) n n), (3, .slice Ao MM.length co), (0, .slice A n c)] ∧ R = [all w] ∧ H = [HP.blk g1 4 (doneM n MM), HP.own 3 1 (.slice Ao MM.length co) MM.length (intCells (natI MM))]) n ⟨0, false, M, Ao, co, by omega, .inl ⟨rfl, rfl, by omega⟩, rfl, rfl, rfl, rfl⟩ fun m e R H hI => ?_
    obtain ⟨v, mi, MM, Ao, co, hv, hst, rfl, rfl, rfl, rfl⟩ := hI
    refine XK.seq ?_
    refine XK.cutB 20 (v < n ∧ mi = false) ?_ ?_
    · skip

      refine XK.region ?_
      refine xk_move rfl (by decide) ?_
      refine xk_move rfl (by decide) ?_
      refine xk_len (el := 40) (by kernel_rfl) rfl (by decide) ?_
      refine xk_lss rfl rfl (by decide) ?_
      refine xk_move rfl (by decide) ?_
      (first | refine xk_split (t := 17) rfl (fun hg => ?_) (fun hg => ?_) | refine xk_splitB (t := 17) rfl (fun hg => ?_) (fun hg => ?_))
      ·
        refine xk_guardT rfl rfl ?_; refine xk_move rfl (by decide) ?_
        refine xk_guardT rfl rfl ?_; (first | refine xk_notD rfl (by decide) ?_ | refine xk_not rfl (by decide) ?_)
        (first | refine xk_pickT rfl rfl (by decide) ?_ | refine xk_pickF rfl rfl (by decide) ?_)
        refine XK.nilN ?_
        exact XK.meetB (by repeat (first | exact trivial | refine ⟨rfl, ?_⟩)) (by first | (refine get_iff rfl ?_; omega) | (refine get_iff rfl ?_; simp_all; done) | (refine get_false rfl ?_; first | omega | (simp_all; done)) | (refine get_true rfl ?_; first | omega | (simp_all; done)) | (refine get_bool rfl ?_; simp_all; done) | (refine get_iff rfl ⟨fun hh => ?_, fun hh => ?_⟩ <;> first | omega | (simp_all; done) | (simp_all; omega)) | (exfalso; omega))
      ·
        refine xk_guardF rfl rfl rfl (by decide) ?_
        refine xk_guardF rfl rfl rfl (by decide) ?_
        (first | refine xk_pickT rfl rfl (by decide) ?_ | refine xk_pickF rfl rfl (by decide) ?_)
        refine XK.nilN ?_
        exact XK.meetB (by repeat (first | exact trivial | refine ⟨rfl, ?_⟩)) (by first | (refine get_iff rfl ?_; omega) | (refine get_iff rfl ?_; simp_all; done) | (refine get_false rfl ?_; first | omega | (simp_all; done)) | (refine get_true rfl ?_; first | omega | (simp_all; done)) | (refine get_bool rfl ?_; simp_all; done) | (refine get_iff rfl ⟨fun hh => ?_, fun hh => ?_⟩ <;> first | omega | (simp_all; done) | (simp_all; omega)) | (exfalso; omega))
    refine XK.if_ rfl (fun hin => ?_) (fun hin => ?_)
    ·
      refine XK.skip ?_
      refine XK.norm ?_
      refine XK.seq ?_
      refine XK.block ?_
      refine XK.seq ?_
      obtain ⟨hvn, hmf⟩ := hin
      obtain ⟨hvj, hjj⟩ : (∀ j, j < v → okN g M j = false) ∧ MM = M := by
        rcases hst with ⟨_, h2, h3⟩ | ⟨h1, _⟩
        · exact ⟨h3, h2⟩
        · rw [hmf] at h1; cases h1
      subst hjj
      subst hmf
      clear hst
      obtain ⟨l, hl⟩ : ∃ l, g[v]? = some l := ⟨g[v]'(by omega), List.getElem?_eq_getElem _⟩
      have hlt := hin0 l (List.mem_of_getElem? hl)
      have hlen := hg2 l (List.mem_of_getElem? hl)
      obtain ⟨bG, oG, Al, kl, rfl, hcG, hsl⟩ := hg.row hl
      have hdv := doneM_at MM hvn

      refine XK.region ?_
      refine xk_move rfl (by decide) ?_
      refine xk_move rfl (by decide) ?_
      refine xk_at v v (el := 4) (sz := 1) (by kernel_rfl) (by kernel_rfl) rfl rfl (by omega) (by omega) (by omega) (by decide) ?_
      refine xk_load (by kernel_rfl) rfl (Rd.blk 0 rfl hdv) (by decide) ?_
      refine xk_not rfl (by decide) ?_
      refine xk_assign rfl (by decide) ?_
      refine XK.nilN ?_
      refine XK.seq ?_
      refine XK.seq ?_

      refine XK.region ?_
      refine xk_assign rfl (by decide) ?_
      refine XK.nilN ?_
      refine XK.envS [(8, .int .i64 0), (7, .bool (!(MM.contains v))), (6, .int .i64 v), (5, .bool false), (4, .slice (some ⟨g1, 0, none⟩) n n), (3, .slice Ao MM.length co), (0, .slice (some ⟨bG, oG, none⟩) n c)] ?_
      refine XK.block ?_
      refine XK.loop (fun m e R H => ∃ (i : Nat) (rb : Bool), i ≤ l.length ∧ rb = (!(MM.contains v) && (l.take i).all fun u => MM.contains u.toNat) ∧ m = l.length - i ∧ e = [(8, .int .i64 i), (7, .bool rb), (6, .int .i64 v), (5, .bool false), (4, .slice (some ⟨g1, 0, none⟩) n n), (3, .slice Ao MM.length co), (0, .slice (some ⟨bG, oG, none⟩) n c)] ∧ R = [all w] ∧ H = [HP.blk g1 4 (doneM n MM), HP.own 3 1 (.slice Ao MM.length co) MM.length (intCells (natI MM))]) l.length ⟨0, _, by omega, by simp, rfl, rfl, rfl, rfl⟩ fun m e R H hI => ?_
      obtain ⟨i, rb, hi, hrb, rfl, rfl, rfl, rfl⟩ := hI
      refine XK.seq ?_
      refine XK.seq ?_

      refine XK.region ?_
      refine xk_move rfl (by decide) ?_
      refine xk_move rfl (by decide) ?_
      refine xk_move rfl (by decide) ?_
      refine xk_at v (oG + v) (el := 40) (sz := 1) (by kernel_rfl) (by kernel_rfl) rfl rfl (by omega) (by omega) (by omega) (by decide) ?_
      refine xk_load (by kernel_rfl) rfl (Rd.roc (by simp) hcG) (by decide) ?_
      refine xk_len (el := 3) (by kernel_rfl) rfl (by decide) ?_
      refine xk_lss rfl rfl (by decide) ?_
      refine XK.nilN ?_
      refine XK.if_ rfl (fun hil => ?_) (fun hil => ?_)
      ·
        refine XK.skip ?_
        refine XK.norm ?_
        refine XK.seq ?_
        refine XK.block ?_
        have hil' : i < l.length := by have h' : (i : Int) < (l.length : Int) := hil; omega
        obtain ⟨y, hy⟩ : ∃ y, l[i]? = some y := ⟨_, List.getElem?_eq_getElem hil'⟩
        have hyb := hlt y (List.mem_of_getElem? hy)
        obtain ⟨bI, oI, hAI, hcI⟩ := hsl.intR (by omega)
        subst hAI
        have hcy := hcI i y hy
        have han := all_next (f := fun u => MM.contains u.toNat) hy

        refine XK.region ?_
        refine xk_move rfl (by decide) ?_
        refine xk_move rfl (by decide) ?_
        refine xk_splitB (t := 38) rfl (fun hg1 => ?_) (fun hg1 => ?_)
        ·
          have hdy := doneM_at MM (show y.toNat < n by omega)
          refine xk_guardT rfl rfl ?_; refine xk_move rfl (by decide) ?_
          refine xk_guardT rfl rfl ?_; refine xk_move rfl (by decide) ?_
          refine xk_guardT rfl rfl ?_; refine xk_move rfl (by decide) ?_
          refine xk_guardT rfl rfl ?_; refine xk_at v (oG + v) (el := 40) (sz := 1) (by kernel_rfl) (by kernel_rfl) rfl rfl (by omega) (by omega) (by omega) (by decide) ?_
          refine xk_guardT rfl rfl ?_; refine xk_load (by kernel_rfl) rfl (Rd.roc (by simp) hcG) (by decide) ?_
          refine xk_guardT rfl rfl ?_; refine xk_move rfl (by decide) ?_
          refine xk_guardT rfl rfl ?_; refine xk_at i (oI + i) (el := 3) (sz := 1) (by kernel_rfl) (by kernel_rfl) rfl rfl (by omega) (by omega) (by omega) (by decide) ?_
          refine xk_guardT rfl rfl ?_; refine xk_load (by kernel_rfl) rfl (Rd.roc (by simp) hcy) (by decide) ?_
          refine xk_guardT rfl rfl ?_; refine xk_at y.toNat y.toNat (el := 4) (sz := 1) (by kernel_rfl) (by kernel_rfl) rfl rfl (by omega) (by omega) (by omega) (by decide) ?_
          refine xk_guardT rfl rfl ?_; refine xk_load (by kernel_rfl) rfl (Rd.blk 0 rfl hdy) (by decide) ?_
          (first | refine xk_pickT rfl rfl (by decide) ?_ | refine xk_pickF rfl rfl (by decide) ?_)
          refine xk_assign rfl (by decide) ?_
          refine XK.nilN ?_

          refine XK.region ?_
          refine xk_move rfl (by decide) ?_
          refine xk_add rfl rfl (wrap_in (by omega)) (by decide) ?_
          refine xk_assign rfl (by decide) ?_
          refine XK.nilN ?_
          exact XK.envS [(8, .int .i64 ((i : Int) + 1)), (7, .bool (MM.contains y.toNat)), (6, .int .i64 v), (5, .bool false), (4, .slice (some ⟨g1, 0, none⟩) n n), (3, .slice Ao MM.length co), (0, .slice (some ⟨bG, oG, none⟩) n c)] (XK.round (l.length - (i + 1)) (by omega) ⟨i + 1, _, by omega, by rw [han, ← Bool.and_assoc, ← hrb, hg1, Bool.true_and], rfl, rfl, rfl, rfl⟩)
        ·
          refine xk_guardF rfl rfl rfl (by decide) ?_
          refine xk_guardF rfl rfl rfl (by decide) ?_
          refine xk_guardF rfl rfl rfl (by decide) ?_
          refine xk_guardF rfl rfl rfl (by decide) ?_
          refine xk_guardF rfl rfl rfl (by decide) ?_
          refine xk_guardF rfl rfl rfl (by decide) ?_
          refine xk_guardF rfl rfl rfl (by decide) ?_
          refine xk_guardF rfl rfl rfl (by decide) ?_
          refine xk_guardF rfl rfl rfl (by decide) ?_
          refine xk_guardF rfl rfl rfl (by decide) ?_
          (first | refine xk_pickT rfl rfl (by decide) ?_ | refine xk_pickF rfl rfl (by decide) ?_)
          refine xk_assign rfl (by decide) ?_
          refine XK.nilN ?_

          refine XK.region ?_
          refine xk_move rfl (by decide) ?_
          refine xk_add rfl rfl (wrap_in (by omega)) (by decide) ?_
          refine xk_assign rfl (by decide) ?_
          refine XK.nilN ?_
          exact XK.envS [(8, .int .i64 ((i : Int) + 1)), (7, .bool false), (6, .int .i64 v), (5, .bool false), (4, .slice (some ⟨g1, 0, none⟩) n n), (3, .slice Ao MM.length co), (0, .slice (some ⟨bG, oG, none⟩) n c)] (XK.round (l.length - (i + 1)) (by omega) ⟨i + 1, false, by omega, by rw [han, ← Bool.and_assoc, ← hrb, hg1, Bool.false_and], rfl, rfl, rfl, rfl⟩)
      ·
        refine XK.exit ?_
        refine XK.norm ?_
        refine XK.seq ?_

        refine XK.region ?_
        refine xk_move rfl (by decide) ?_
        refine XK.nilN ?_
        have hok := okN_row (M := MM) hl
        rw [show l.take i = l from List.take_of_length_le (by have h' : ¬ (i : Int) < (l.length : Int) := hil; omega), ← hok] at hrb
        refine XK.cond rfl (fun hrd => ?_) (fun hrd => ?_)
        ·
          refine XK.seq ?_
          obtain ⟨hgn, hgl⟩ := hgot.next (by omega) hvj (by rw [← hrb, hrd])
          have hnl : (MM ++ [v]).length = MM.length + 1 := by simp

          refine XK.region ?_
          refine xk_move rfl (by decide) ?_
          refine xk_move rfl (by decide) ?_
          refine xk_at v v (el := 4) (sz := 1) (by kernel_rfl) (by kernel_rfl) rfl rfl (by omega) (by omega) (by omega) (by decide) ?_
          refine xk_store 0 rfl (by kernel_rfl) rfl rfl rfl (by rw [doneM_len]; omega) ?_
          dsimp only [List.set]
          rw [doneM_set MM hvn]
          refine XK.nilN ?_
          refine XK.seq ?_

          refine XK.region ?_
          refine xk_move rfl (by decide) ?_
          refine xk_move rfl (by decide) ?_
          refine xk_slice (el := 3) (sz := 1) (zs := [.int .i64 0]) (by kernel_rfl) (zeroB_of (by kernel_rfl)) (by kernel_rfl) rfl (by decide) (by decide) rfl (by simp [fillL, setN, Value.cells, List.range_succ, List.set]; rfl) (by decide) fun g2 => ?_
          refine xk_appendT 2 1 8 1 (n' := MM.length + 1) (el := 3) (by kernel_rfl) (by kernel_rfl) (by decide) rfl rfl rfl (sl_blk 0 rfl rfl) (by simp [Value.oneCell']) rfl (by omega) (by omega) (by decide) fun A9 c9 => ?_
          dsimp only [List.set]
          rw [show intCells (natI MM) ++ [.int .i64 (v : Int)] = intCells (natI (MM ++ [v])) from by rw [natI_snoc]; simp [intCells], ← hnl]
          refine xk_assign rfl (by decide) ?_
          refine XK.nilN ?_

          refine XK.region ?_
          refine xk_assign rfl (by decide) ?_
          refine XK.nilN ?_

          refine XK.region ?_
          refine xk_move rfl (by decide) ?_
          refine xk_add rfl rfl (wrap_in (by omega)) (by decide) ?_
          refine xk_assign rfl (by decide) ?_
          refine XK.nilN ?_
          exact XK.weak [1, 2] rfl (by decide) (fun _ h => h) (XK.envS [(6, .int .i64 ((v : Int) + 1)), (5, .bool true), (4, .slice (some ⟨g1, 0, none⟩) n n), (3, .slice A9 (MM ++ [v]).length c9), (0, .slice (some ⟨bG, oG, none⟩) n c)] (XK.round (n - (v + 1)) (by omega) ⟨v + 1, true, MM ++ [v], A9, c9, by omega, .inr ⟨rfl, hgn, (by first | exact hnl | rfl), by omega⟩, rfl, rfl, rfl, rfl⟩))
        ·
          refine XK.skip ?_
          refine XK.norm ?_

          refine XK.region ?_
          refine xk_move rfl (by decide) ?_
          refine xk_add rfl rfl (wrap_in (by omega)) (by decide) ?_
          refine xk_assign rfl (by decide) ?_
          refine XK.nilN ?_
          have hvj' : ∀ j, j < v + 1 → okN g MM j = false := fun j hj => by
            rcases Nat.lt_or_ge j v with h9 | h9
            · exact hvj j h9
            · rw [show j = v by omega, ← hrb, hrd]
          exact XK.envS [(6, .int .i64 ((v : Int) + 1)), (5, .bool false), (4, .slice (some ⟨g1, 0, none⟩) n n), (3, .slice Ao MM.length co), (0, .slice (some ⟨bG, oG, none⟩) n c)] (XK.round (n - (v + 1)) (by omega) ⟨v + 1, false, MM, Ao, co, by omega, .inl ⟨rfl, rfl, hvj'⟩, rfl, rfl, rfl, rfl⟩)
    ·
      refine XK.exit ?_
      refine XK.norm ?_
      rcases hst with ⟨rfl, rfl, h3⟩ | ⟨rfl, h3, h4, h5⟩
      · have hno : nextG g MM = none := nextG_none fun j hj => h3 j (by
          rcases Nat.lt_or_ge v n with h9 | h9
          · exact absurd ⟨h9, rfl⟩ hin
          · omega)
        exact XK.envS [(5, .bool false), (4, .slice (some ⟨g1, 0, none⟩) n n), (3, .slice Ao MM.length co), (0, .slice A n c)] (XK.round (2 * (n - MM.length) + 0) (by simp) ⟨MM, false, Ao, co, hgot, (fun _ => hno), by simp, rfl, rfl, rfl⟩)
      · exact XK.envS [(5, .bool true), (4, .slice (some ⟨g1, 0, none⟩) n n), (3, .slice Ao MM.length co), (0, .slice A n c)] (XK.round (2 * (n - MM.length) + 1) (by simp; omega) ⟨MM, true, Ao, co, h3, (fun h => by cases h), by simp, rfl, rfl, rfl⟩)
  ·
    refine XK.exit ?_
    refine XK.norm ?_
    refine XK.seq ?_

    refine XK.region ?_
    refine xk_move rfl (by decide) ?_
    refine xk_assign rfl (by decide) ?_
    refine XK.nilN ?_
    refine XK.ret ?_
    refine XK.norm ?_
    have hno := hmo h
    refine XK.still [] [1] [] (by simp) rfl (by decide) (by decide) fun q hq _ hfr => ?_
    obtain ⟨F1, sf1, zf1⟩ := hq 1 _ (by simp) rfl
    obtain ⟨A8, c8, e8, h8⟩ := SlS.of_own (Y := q.Z) sf1 zf1
    injection e8 with f1 f2 f3
    subst f1
    exact XK.ret1 rfl rfl fun w1 st => ⟨⟨_, rfl, Ao, co, M, rfl, SlS.le h8 (st.fresh_le (by simp) (hfr (by simp) (by simp))), hgot, hno⟩, st.below (by simp)⟩

theorem refCheckG_any (A : Option Addr) (n c : Nat) (g : List (List Int)) (w : World) (hg : GrS (all w) A n g) (hn : n = g.length) (hn2 : n ≤ 100) (hg2 : ∀ l ∈ g, l.length ≤ 1000000) (hin0 : InG g) :
    Calls Tryz.prog 122 #[.slice A n c] w (Rt (.int .i64 (cycE g)) w) := by
  refine XK.enter (vs := [.slice A n c]) Tryz.func122 rfl Tryz.ntmps122 (by simp) ?_
  refine XK.seq ?_

  refine XK.region ?_
  refine xk_assign rfl (by decide) ?_
  refine XK.nilN ?_
  refine XK.seq ?_
  refine XK.seq ?_

  refine XK.region ?_
  refine xk_move rfl (by decide) ?_
  refine xk_len (el := 40) (by kernel_rfl) rfl (by decide) ?_
  refine xk_gtr rfl rfl (by decide) ?_
  refine XK.nilN ?_
  refine XK.if_ rfl (fun h => absurd h (by omega)) (fun h => ?_)

  ·
    refine XK.skip ?_
    refine XK.norm ?_
    refine XK.seq ?_
    refine XK.seq ?_

    refine XK.region ?_
    refine xk_assign rfl (by decide) ?_
    refine XK.nilN ?_
    refine XK.envS [(3, .int .i64 0), (0, .slice A n c)] ?_
    refine XK.block ?_
    refine XK.loop (fun m e R H => ∃ (v : Nat), v ≤ n ∧ m = n - v ∧ e = [(3, .int .i64 v), (0, .slice A n c)] ∧ R = [all w] ∧ H = []) n ⟨0, by omega, rfl, rfl, rfl, rfl⟩ fun m e R H hI => ?_
    obtain ⟨v, hv, rfl, rfl, rfl, rfl⟩ := hI
    refine XK.seq ?_
    refine XK.seq ?_

    refine XK.region ?_
    refine xk_move rfl (by decide) ?_
    refine xk_move rfl (by decide) ?_
    refine xk_len (el := 40) (by kernel_rfl) rfl (by decide) ?_
    refine xk_lss rfl rfl (by decide) ?_
    refine XK.nilN ?_
    refine XK.if_ rfl (fun hvl => ?_) (fun hvl => ?_)
    ·
      refine XK.skip ?_
      refine XK.norm ?_
      refine XK.seq ?_
      refine XK.block ?_
      refine XK.seq ?_
      have hvn : v < n := by have h' : (v : Int) < (n : Int) := hvl; omega
      obtain ⟨l, hl⟩ : ∃ l, g[v]? = some l := ⟨g[v]'(by omega), List.getElem?_eq_getElem _⟩
      have hlt := hin0 l (List.mem_of_getElem? hl)
      have hlen := hg2 l (List.mem_of_getElem? hl)
      obtain ⟨bG, oG, Al, kl, rfl, hcG, hsl⟩ := hg.row hl

      refine XK.region ?_
      refine xk_assign rfl (by decide) ?_
      refine XK.nilN ?_
      refine XK.envS [(4, .int .i64 0), (3, .int .i64 v), (0, .slice (some ⟨bG, oG, none⟩) n c)] ?_
      refine XK.block ?_
      refine XK.loop (fun m e R H => ∃ (i : Nat), i ≤ l.length ∧ m = l.length - i ∧ e = [(4, .int .i64 i), (3, .int .i64 v), (0, .slice (some ⟨bG, oG, none⟩) n c)] ∧ R = [all w] ∧ H = []) l.length ⟨0, by omega, rfl, rfl, rfl, rfl⟩ fun m e R H hI => ?_
      obtain ⟨i, hi, rfl, rfl, rfl, rfl⟩ := hI
      refine XK.seq ?_
      refine XK.seq ?_

      refine XK.region ?_
      refine xk_move rfl (by decide) ?_
      refine xk_move rfl (by decide) ?_
      refine xk_move rfl (by decide) ?_
      refine xk_at v (oG + v) (el := 40) (sz := 1) (by kernel_rfl) (by kernel_rfl) rfl rfl (by omega) (by omega) (by omega) (by decide) ?_
      refine xk_load (by kernel_rfl) rfl (Rd.roc (by simp) hcG) (by decide) ?_
      refine xk_len (el := 3) (by kernel_rfl) rfl (by decide) ?_
      refine xk_lss rfl rfl (by decide) ?_
      refine XK.nilN ?_
      refine XK.if_ rfl (fun hil => ?_) (fun hil => ?_)
      ·
        refine XK.skip ?_
        refine XK.norm ?_
        refine XK.seq ?_
        refine XK.block ?_
        have hil' : i < l.length := by have h' : (i : Int) < (l.length : Int) := hil; omega
        obtain ⟨y, hy⟩ : ∃ y, l[i]? = some y := ⟨_, List.getElem?_eq_getElem hil'⟩
        have hyb := hlt y (List.mem_of_getElem? hy)
        obtain ⟨bI, oI, hAI, hcI⟩ := hsl.intR (by omega)
        subst hAI
        have hcy := hcI i y hy
        refine XK.cutB 42 (False) ?_ ?_
        · skip

          refine XK.region ?_
          refine xk_move rfl (by decide) ?_
          refine xk_move rfl (by decide) ?_
          refine xk_at v (oG + v) (el := 40) (sz := 1) (by kernel_rfl) (by kernel_rfl) rfl rfl (by omega) (by omega) (by omega) (by decide) ?_
          refine xk_load (by kernel_rfl) rfl (Rd.roc (by simp) hcG) (by decide) ?_
          refine xk_move rfl (by decide) ?_
          refine xk_at i (oI + i) (el := 3) (sz := 1) (by kernel_rfl) (by kernel_rfl) rfl rfl (by omega) (by omega) (by omega) (by decide) ?_
          refine xk_load (by kernel_rfl) rfl (Rd.roc (by simp) hcy) (by decide) ?_
          refine xk_lss rfl rfl (by decide) ?_
          refine xk_move rfl (by decide) ?_
          (first | refine xk_split (t := 31) rfl (fun hg => ?_) (fun hg => ?_) | refine xk_splitB (t := 31) rfl (fun hg => ?_) (fun hg => ?_))
          ·
            refine xk_guardF rfl rfl rfl (by decide) ?_
            refine xk_guardF rfl rfl rfl (by decide) ?_
            refine xk_guardF rfl rfl rfl (by decide) ?_
            refine xk_guardF rfl rfl rfl (by decide) ?_
            refine xk_guardF rfl rfl rfl (by decide) ?_
            refine xk_guardF rfl rfl rfl (by decide) ?_
            refine xk_guardF rfl rfl rfl (by decide) ?_
            refine xk_guardF rfl rfl rfl (by decide) ?_
            refine xk_guardF rfl rfl rfl (by decide) ?_
            refine xk_guardF rfl rfl rfl (by decide) ?_
            (first | refine xk_pickT rfl rfl (by decide) ?_ | refine xk_pickF rfl rfl (by decide) ?_)
            refine XK.nilN ?_
            exact XK.meetB (by repeat (first | exact trivial | refine ⟨rfl, ?_⟩)) (by first | (exfalso; omega) | (refine get_iff rfl ⟨fun hh => ?_, fun hh => hh.elim⟩; omega) | (refine get_false rfl ?_; exact id))
          ·
            refine xk_guardT rfl rfl ?_; refine xk_move rfl (by decide) ?_
            refine xk_guardT rfl rfl ?_; refine xk_move rfl (by decide) ?_
            refine xk_guardT rfl rfl ?_; refine xk_at v (oG + v) (el := 40) (sz := 1) (by kernel_rfl) (by kernel_rfl) rfl rfl (by omega) (by omega) (by omega) (by decide) ?_
            refine xk_guardT rfl rfl ?_; refine xk_load (by kernel_rfl) rfl (Rd.roc (by simp) hcG) (by decide) ?_
            refine xk_guardT rfl rfl ?_; refine xk_move rfl (by decide) ?_
            refine xk_guardT rfl rfl ?_; refine xk_at i (oI + i) (el := 3) (sz := 1) (by kernel_rfl) (by kernel_rfl) rfl rfl (by omega) (by omega) (by omega) (by decide) ?_
            refine xk_guardT rfl rfl ?_; refine xk_load (by kernel_rfl) rfl (Rd.roc (by simp) hcy) (by decide) ?_
            refine xk_guardT rfl rfl ?_; refine xk_move rfl (by decide) ?_
            refine xk_guardT rfl rfl ?_; refine xk_len (el := 40) (by kernel_rfl) rfl (by decide) ?_
            refine xk_guardT rfl rfl ?_; refine xk_geq rfl rfl (by decide) ?_
            (first | refine xk_pickT rfl rfl (by decide) ?_ | refine xk_pickF rfl rfl (by decide) ?_)
            refine XK.nilN ?_
            exact XK.meetB (by repeat (first | exact trivial | refine ⟨rfl, ?_⟩)) (by first | (exfalso; omega) | (refine get_iff rfl ⟨fun hh => ?_, fun hh => hh.elim⟩; omega) | (refine get_false rfl ?_; exact id))
        refine XK.cond rfl (fun h => by simp at h) (fun _ => ?_)

        ·
          refine XK.skip ?_
          refine XK.norm ?_

          refine XK.region ?_
          refine xk_move rfl (by decide) ?_
          refine xk_add rfl rfl (wrap_in (by omega)) (by decide) ?_
          refine xk_assign rfl (by decide) ?_
          refine XK.nilN ?_
          exact XK.envS [(4, .int .i64 ((i : Int) + 1)), (3, .int .i64 v), (0, .slice (some ⟨bG, oG, none⟩) n c)] (XK.round (l.length - (i + 1)) (by omega) ⟨i + 1, by omega, rfl, rfl, rfl, rfl⟩)
      ·
        refine XK.exit ?_
        refine XK.norm ?_

        refine XK.region ?_
        refine xk_move rfl (by decide) ?_
        refine xk_add rfl rfl (wrap_in (by omega)) (by decide) ?_
        refine xk_assign rfl (by decide) ?_
        refine XK.nilN ?_
        exact XK.envS [(3, .int .i64 ((v : Int) + 1)), (0, .slice (some ⟨bG, oG, none⟩) n c)] (XK.round (n - (v + 1)) (by omega) ⟨v + 1, by omega, rfl, rfl, rfl, rfl⟩)
    ·
      refine XK.exit ?_
      refine XK.norm ?_
      refine XK.seq ?_
      refine XK.seq ?_

      refine XK.region ?_
      refine xk_move rfl (by decide) ?_
      refine xk_call [] (f := 139) (fi := []) (ca := []) (by kernel_rfl) rfl rfl (by decide) (by simp) (gotV g) (fun w1 st => refOrderG_any _ n c g w1 (hg.le (all_le (st.started (by simp)))) hn hn2 hg2 hin0) ?_
      rintro _ w1 q1 ⟨Ao, co, M, rfl, _, hgot, hno⟩ _ _ _
      have hcy := hgot.ends hin0 (by omega) hno
      rw [hcy]
      refine xk_len (el := 3) (by kernel_rfl) rfl (by decide) ?_
      refine xk_move rfl (by decide) ?_
      refine xk_len (el := 40) (by kernel_rfl) rfl (by decide) ?_
      refine xk_lss rfl rfl (by decide) ?_
      refine XK.nilN ?_
      refine XK.if_ rfl (fun hsh => ?_) (fun hsh => ?_)
      ·
        refine XK.seq ?_

        refine XK.region ?_
        refine xk_assign rfl (by decide) ?_
        refine XK.nilN ?_
        refine XK.ret ?_
        refine XK.norm ?_
        rw [if_pos (by omega)]
        exact XK.ret1 rfl rfl fun w1 st => ⟨rfl, st.below (by simp)⟩
      ·
        refine XK.skip ?_
        refine XK.norm ?_
        refine XK.seq ?_

        refine XK.region ?_
        refine xk_assign rfl (by decide) ?_
        refine XK.nilN ?_
        refine XK.ret ?_
        refine XK.norm ?_
        rw [if_neg (by omega)]
        exact XK.ret1 rfl rfl fun w1 st => ⟨rfl, st.below (by simp)⟩

end Go.Proofs.YtgopaoidgcgalaaGreatDoor
/- The small logic: a chunk that is one of many, not told which. -/
namespace Go.Proofs.YtgopaoidgcgalaaGreatDoor
set_option linter.all false
open Go.RowKit
def HP.ex {α : Type} (f : α → HP) : HP := ⟨fun F w => ∃ a, (f a).sat F w, fun F w w' ⟨a, h⟩ hk => ⟨a, (f a).loc F w w' h hk⟩⟩
section
variable {N : Frm} {w0 : World} {e : Env} {R : List Piece} {H : List HP} {K : Act → World → Prop}
theorem XK.openEx (i : Nat) {α : Type} {f : α → HP} (hi : H[i]? = some (HP.ex f)) (h : ∀ a, XK N w0 K e R (H.set i (f a))) : XK N w0 K e R H := fun a w hr st => by
  obtain ⟨Z, F, hz, hrr, hs, hff, hdd⟩ := st.ex
  obtain ⟨x, hx⟩ := hs i _ hi
  have hlt : i < H.length := by
    rcases Nat.lt_or_ge i H.length with h | h
    · exact h
    · rw [List.getElem?_eq_none h] at hi; cases hi
  refine h x a w hr ⟨st.os, st.tape, st.output, st.size, Z, F, hz, hrr, fun j p hj => ?_, hff, hdd⟩
  rw [List.getElem?_set] at hj
  split at hj
  · rename_i e; subst e
    first | (rw [if_pos hlt] at hj; cases hj) | cases hj
    exact hx
  · exact hs j p hj
theorem XK.toEx (i : Nat) {α : Type} {f : α → HP} (x : α) (hi : H[i]? = some (f x)) (h : XK N w0 K e R (H.set i (HP.ex f))) : XK N w0 K e R H := fun a w hr st =>
  h a w hr (st.turn hi (Nat.le_refl _) rfl rfl rfl fun F hF hlt => ⟨F, ⟨x, hF⟩, fun b hb => ⟨.inl hb, hlt b hb⟩, fun _ _ _ => rfl⟩)
end
end Go.Proofs.YtgopaoidgcgalaaGreatDoor
/- A call that writes a chunk, and reads the pieces; cuts and draws in rounds; two results in variables. -/
namespace Go.Proofs.YtgopaoidgcgalaaGreatDoor
set_option linter.all false
open Go.RowKit
section
variable {P : Program} {w : World} {t kt et : TypeId} {r : Nat} {l : List (Int × Value)}
variable {P : Program} {N : Frm} {w0 w : World} {e : Env} {R : List Piece} {H : List HP} {Q : Exit → Act → World → Prop} {ops : Array Oper} {rest : List Oper}
variable {d : Nat} {ty : TypeId} {pos : String} {aft : Array Edge}
end

section
variable {P : Program} {nn : Nat} {w0 : World} {e e0 : Env} {R R0 : List Piece} {H H0 : List HP} {Q : Exit → Act → World → Prop} {r : Option Nat} {L : List Nat} {K : Act → World → Prop}
theorem XC.cutB {x y : Code} (u : Nat) (p : Prop) [Decidable p] (h : XK ⟨nn, []⟩ w0 (KC r L P x (Exit.then (fun a' w' => ∃ b, a' = mk L b ∧ Rep ⟨nn, []⟩ ((u, .bool (decide p)) :: e) b ∧ St w0 R H w') Q)) e R H)
    (hy : XK ⟨nn, []⟩ w0 (KC r L P y Q) ((u, .bool (decide p)) :: e) R H) : XK ⟨nn, []⟩ w0 (KC r L P (Code.seq x y) Q) e R H := fun a w hr st => by
  refine wpIn_seq (wpIn_mono (h a w hr st) fun x a' w' hq => ?_)
  cases x with
  | normal =>
    obtain ⟨b, rfl, h1, h2⟩ := hq
    exact hy b w' h1 h2
  | _ => exact hq
theorem XC.meetB {u : Nat} {p : Prop} [Decidable p] (hs : e0.Sub e) (hu : e.get u = some (.bool (decide p))) : XK ⟨nn, []⟩ w0 (KQ L (Exit.then (fun a' w' => ∃ b, a' = mk L b ∧ Rep ⟨nn, []⟩ ((u, .bool (decide p)) :: e0) b ∧ St w0 R H w') Q) .normal) e R H := fun a _ hr st => ⟨a, rfl, hr.sub_cons hs hu, st⟩
/-- .. what is known ahead of each of the first m: R0, H0 -/
theorem XK.draw1 {P : Program} {N : Frm} {w0 : World} {e : Env} {R : List Piece} {H : List HP} {Q : Exit → Act → World → Prop} (R0 : List Piece) (H0 : List HP) (m : Nat) {id : Nat} {l : List Oper} (hm : P.follows .mixedOrders = true) (hc : (Region.noSelect l.toArray && tlB l.toArray m) = true) (h : XA P N w0 l.toArray Q R0 H0 m l.length (Array.replicate l.length false) e R H) : XK N w0 ((Code.region id l.toArray true).wp P Q) e R H := fun a w hr st => by
  simp only [Bool.and_eq_true] at hc
  have := h ⟨Down.start _ _, hc.1, hc.2⟩ a w.drew hr st.drew
  refine wp_region_any hm (wpAny_of_x (S := St w0 R0 H0) (m := m) _ _ _ _ ?_)
  simpa using this
theorem XC.draw1 (R0 : List Piece) (H0 : List HP) (m : Nat) {id : Nat} {l : List Oper} (hm : P.follows .mixedOrders = true) (hc : (Region.noSelect (l.take m).toArray && edgesB l.toArray && tlB l.toArray m && tlB (l.take m).toArray m && guardsB l m && (l.take m).all plainOp && decide (m ≤ l.length)) = true)
    (h : XA P ⟨nn, []⟩ w0 (l.take m).toArray (Fx (KI r L P l.toArray Q (l.drop m))) R0 H0 m m (Array.replicate m false) e R H) : XK ⟨nn, []⟩ w0 (KC r L P (Code.region id l.toArray true) Q) e R H := fun a w hr st => by
  simp only [Bool.and_eq_true, decide_eq_true_eq] at hc
  obtain ⟨⟨⟨⟨⟨⟨c1, c2⟩, c3⟩, c4⟩, c5⟩, c6⟩, c7⟩ := hc
  have h1 := h ⟨Down.start _ _, c1, c4⟩ a w.drew hr st.drew
  have h2 := any_sound (r := r) (L := L) (Q := Q) c7 c2 c3 c5 c6 m (Array.replicate l.length false) _ a w.drew ⟨fun i hi => by simp [hi, Nat.lt_of_lt_of_le hi c7], fun i hi => by simp [Array.getElem?_replicate]; split <;> rfl, by simp, by simp, by simpa using c7⟩ (Down.start _ _) (wpAny_of_x _ _ _ _ h1)
  unfold KC
  refine wpIn_region_any hm ?_
  rw [show m + (l.length - m) = l.length by omega] at h2
  simpa using h2
end
end Go.Proofs.YtgopaoidgcgalaaGreatDoor
/- Panics, and calls that panic. -/
namespace Go.Proofs.YtgopaoidgcgalaaGreatDoor
set_option linter.all false
open Go.RowKit
section
variable {P : Program} {N : Frm} {w0 : World} {K : Act → World → Prop} {e : Env} {R : List Piece} {H : List HP} {Q : Exit → Act → World → Prop} {ops : Array Oper} {rest : List Oper}
variable {d : Nat} {ty : TypeId} {pos : String} {aft : Array Edge}
/-- one panic -/
def pan (v : Value) : List PanicEntry := [{ v := v, recovered := false }]
theorem XK.thenP {c : List PanicEntry} (h : XK N w0 (Q (.panic c)) e R H) : XK N w0 (Exit.then K Q (.panic c)) e R H := h
theorem XK.inP {c : List PanicEntry} {id : Nat} (h : XK N w0 (Q (.panic c)) e R H) : XK N w0 (Exit.inBlock id Q (.panic c)) e R H := h
/-- panic(x) -/
theorem xk_panic {x : Operand} {T : TypeId} {u : Value} (hx : e.ev x = some (.iface T u)) (h : XK N w0 (Q (.panic (pan (.iface T u)))) e R H) :
    XK N w0 (wpList P ops Q (⟨none, .panic x, ty, pos, aft, none⟩ :: rest)) e R H := fun a w hr st => wpList_plain rfl fun K hK => by
  have hrun : (execOp a.eval (⟨none, .panic x, ty, pos, aft, none⟩ : Oper)).run P w = .halt (.panic (.iface T u)) w := by
    simp [execOp, hr.ev hx, run_panic_iface]
  unfold Oper.wp
  rw [hrun]
  exact h a w hr st
/-- the call returns what R says, or panics, if P -/
def OutX (Rv : Value → World → World → Prop) (Pp : Prop) (w : World) : Ending → World → Prop := fun y w' => ((∃ v, y = .returned v ∧ Rv v w w') ∨ (Pp ∧ ∃ T u, y = .panicked (pan (.iface T u)))) ∧ Below w.heap.size w w'
/-- a call that may panic -/
theorem xk_callX (ps : List Piece) {f : FuncId} {x : Operand} {args : List Operand} {fi ca vs : List Value} {tys : Array TypeId} (hf : callB P f = true) (hx : e.ev x = some (.func (.func f) fi.toArray ca.toArray)) (ha : e.evs args = some vs) (hd : d < N.n) (hps : ∀ p ∈ ps, p ∈ R)
    (R' : Value → World → World → Prop) (Pp : Prop) (hc : ∀ w, St w0 R H w → Calls P f (fi ++ vs ++ ca).toArray w (OutX R' Pp w))
    (kp : Pp → ∀ T u, XK N w0 (Q (.panic (pan (.iface T u)))) e R H)
    (k : ∀ v w q, R' v w q.w → (fresh w q.w).Le q → (∀ p ∈ ps, p.Le q) → ((∀ p ∈ ps, Fresh w0 p) → Fresh w0 q) → XK N w0 (wpList P ops Q rest) ((d, v) :: e) (q :: R) H) :
    XK N w0 (wpList P ops Q (⟨some d, .call { callee := .value x, args := args.toArray, argTypes := tys }, ty, pos, aft, none⟩ :: rest)) e R H := fun a w hr st => wpList_plain rfl fun K hK => by
  unfold callB at hf
  cases hq : P.funcs[f]? with
  | none => simp [hq] at hf
  | some fn =>
    simp [hq] at hf
    obtain ⟨hf1, hf2⟩ := hf
    have hrun : (execOp a.eval (⟨some d, .call { callee := .value x, args := args.toArray, argTypes := tys }, ty, pos, aft, none⟩ : Oper)).run P w = .ok (.enter f (fi ++ vs ++ ca).toArray) w := by
      cases hb : fn.body with
      | none => simp [hb] at hf2
      | some c =>
        simp [execOp, resolve, hr.ev hx, Deferred.ofValue, invoke, callFunc, hq, hf1, hb, hr.evs ha]
    unfold Oper.wp
    rw [hrun]
    refine (hc w st).mono fun y w' ⟨h, hb⟩ => ?_
    rcases h with ⟨v, hy, hR⟩ | ⟨hp, T, u, hy⟩
    · subst hy
      refine hK _ _ (k v w ⟨w', fun b => (fresh w w').Z b ∨ ∃ p ∈ ps, p.Z b⟩ hR (fun b h => ⟨.inl h, rfl⟩) (fun p hp b h => ⟨.inr ⟨p, hp, h⟩, ?_⟩) (fun hfr b hb => ?_) _ _ (hr.put hd v) (st.seen hb (fun b h => h.imp id fun ⟨p, hp, hz⟩ => ⟨p, hps p hp, hz⟩)))
      · exact (hb.block b (st.ro_lt (hps p hp) h)).trans (st.ro (hps p hp) h)
      · rcases hb with hb | ⟨p, hp, hb⟩
        · exact Nat.le_trans st.size hb.1
        · exact hfr p hp b hb
    · subst hy
      exact kp hp T u a w' hr (st.call hb)
/-- .. and returns a value -/
theorem xk_callXV {f : FuncId} {x : Operand} {args : List Operand} {fi ca vs : List Value} {tys : Array TypeId} (hf : callB P f = true) (hx : e.ev x = some (.func (.func f) fi.toArray ca.toArray)) (ha : e.evs args = some vs) (hd : d < N.n)
    (R' : Value → Prop) (Pp : Prop) (hc : ∀ w, St w0 R H w → Calls P f (fi ++ vs ++ ca).toArray w (OutX (fun v _ _ => R' v) Pp w))
    (kp : Pp → ∀ T u, XK N w0 (Q (.panic (pan (.iface T u)))) e R H)
    (k : ∀ v, R' v → XK N w0 (wpList P ops Q rest) ((d, v) :: e) R H) :
    XK N w0 (wpList P ops Q (⟨some d, .call { callee := .value x, args := args.toArray, argTypes := tys }, ty, pos, aft, none⟩ :: rest)) e R H :=
  xk_callX [] hf hx ha hd (by simp) _ Pp hc kp fun v w q hv _ _ _ => fun a w hr st => k v hv a w hr (st.weak (fun p hp => List.mem_cons_of_mem _ hp) id (fun _ _ _ _ h => h) (fun _ _ h => h))
theorem XK.retP {nn : Nat} {fn : Func} {Post : Ending → World → Prop} {c : List PanicEntry} (h : ∀ w, St w0 R H w → Post (.panicked c) w) : XK ⟨nn, []⟩ w0 (bodyPost P fn Post (.panic c)) e R H := fun a w hrp st => ⟨hrp.defers, h w st⟩
end
end Go.Proofs.YtgopaoidgcgalaaGreatDoor
/- Operations on strings; boxing into an interface. -/
namespace Go.Proofs.YtgopaoidgcgalaaGreatDoor
set_option linter.all false
open Go.RowKit
section
variable {P : Program} {N : Frm} {w0 : World} {e : Env} {R : List Piece} {H : List HP} {Q : Exit → Act → World → Prop} {ops : Array Oper} {rest : List Oper}
variable {d : Nat} {ty : TypeId} {pos : String} {aft : Array Edge}
theorem xk_eqlStr {x y : Operand} {t u : TypeId} {a b : ByteArray} (ht : P.underlying t = some .string) (hx : e.ev x = some (.string a)) (hy : e.ev y = some (.string b)) (hd : d < N.n) (k : XK N w0 (wpList P ops Q rest) ((d, .bool (decide (a = b))) :: e) R H) :
    XK N w0 (wpList P ops Q (⟨some d, .binOp .eql t x y u, ty, pos, aft, none⟩ :: rest)) e R H := xk_pure hd (fun a' w hr => by
  have hb : (a.toList == b.toList) = decide (a = b) := by
    by_cases h : a = b
    · subst h; simp
    · have h2 : ¬ a.toList = b.toList := fun he => h (by
        rw [ByteArray.toList_eq, ByteArray.toList_eq] at he
        cases a; cases b
        congr 1
        simpa using he)
      simp [h, h2]
  simp [execOp, hr.ev hx, hr.ev hy, eqGuard, binOp_string_eql, binOp_string_neq, hb]) k
theorem xk_neqStr {x y : Operand} {t u : TypeId} {a b : ByteArray} (ht : P.underlying t = some .string) (hx : e.ev x = some (.string a)) (hy : e.ev y = some (.string b)) (hd : d < N.n) (k : XK N w0 (wpList P ops Q rest) ((d, .bool (decide (¬ a = b))) :: e) R H) :
    XK N w0 (wpList P ops Q (⟨some d, .binOp .neq t x y u, ty, pos, aft, none⟩ :: rest)) e R H := xk_pure hd (fun a' w hr => by
  have hb : (!(a.toList == b.toList)) = decide (¬ a = b) := by
    by_cases h : a = b
    · subst h; simp
    · have h2 : ¬ a.toList = b.toList := fun he => h (by
        rw [ByteArray.toList_eq, ByteArray.toList_eq] at he
        cases a; cases b
        congr 1
        simpa using he)
      simp [h, h2]
  simp [execOp, hr.ev hx, hr.ev hy, eqGuard, binOp_string_eql, binOp_string_neq, hb]) k
theorem xk_iface {x : Operand} {T : TypeId} {v : Value} (hc : P.concrete T = true) (hx : e.ev x = some v) (hd : d < N.n) (k : XK N w0 (wpList P ops Q rest) ((d, .iface T v) :: e) R H) :
    XK N w0 (wpList P ops Q (⟨some d, .makeInterface T x, ty, pos, aft, none⟩ :: rest)) e R H := xk_pure hd (fun a w hr => by
  simp [execOp, hr.ev hx, run_makeInterface (t := T) (x := v) (h := hc)]) k
theorem xk_sliceStr (i j : Nat) {x lo hi : Operand} {t : TypeId} {s : ByteArray} {k1 k2 : IntKind} {a b : Int} (ht : P.underlying t = some .string) (hx : e.ev x = some (.string s)) (hlo : e.ev lo = some (.int k1 a)) (hhi : e.ev hi = some (.int k2 b)) (ha : a = (i : Int)) (hb : b = (j : Int)) (hij : i ≤ j) (hj : j ≤ s.size) (hd : d < N.n)
    (k : XK N w0 (wpList P ops Q rest) ((d, .string (s.extract i j)) :: e) R H) :
    XK N w0 (wpList P ops Q (⟨some d, .slice t x (some lo) (some hi) none, ty, pos, aft, none⟩ :: rest)) e R H := xk_pure hd (fun a' w hr => by
  subst ha hb
  have h := run_slice_string (P := P) w t s k1 k2 i j ht (by omega) (by omega) (by omega)
  simp only [Int.toNat_natCast] at h
  simp [execOp, hr.ev hx, hr.ev hlo, hr.ev hhi, run_sliceAt_string (h := ht), h]) k
/-- what a slot is known to be -/
theorem xk_isV {K : Act → World → Prop} {t : Nat} {b : Bool} (c : Bool) (ht : e.get t = some (.bool b)) (hb : b = c) (k : XK N w0 K ((t, .bool c) :: e) R H) : XK N w0 K e R H := fun a w hr st => k a w ⟨hr.size, hr.defers, fun u v hu => by
  unfold Env.get at hu
  split at hu
  · rename_i he
    have := Nat.eq_of_beq_eq_true he
    subst this
    cases hu
    rw [← hb]; exact hr.get t _ ht
  · exact hr.get u v hu⟩ st
end
end Go.Proofs.YtgopaoidgcgalaaGreatDoor
/- A function that defers a closure: its beginning, the deferral, its ends. -/
namespace Go.Proofs.YtgopaoidgcgalaaGreatDoor
set_option linter.all false
open Go.RowKit
section
variable {P : Program} {N : Frm} {w0 : World} {K : Act → World → Prop} {e : Env} {R : List Piece} {H H' : List HP} {Q : Exit → Act → World → Prop} {ops : Array Oper} {rest : List Oper}
variable {d : Nat} {ty : TypeId} {pos : String} {aft : Array Edge}
/-- a closure that is deferred -/
def dfd (f : FuncId) (fi ca : List Value) : Deferred := { target := .fn (.func f) ca.toArray, args := fi.toArray }
theorem XK.enterD {nn : Nat} {f : FuncId} {fn : Func} {c : Code} {vs : List Value} {w : World} {Post : Ending → World → Prop} (hf : P.funcs[f]? = some fn) (hb : fn.body = some c) (hN : fn.ntmps = nn) (hl : vs.length ≤ nn)
    (h : XK ⟨nn, []⟩ w (c.wp P (bodyPostD P fn Post)) (argEnv 0 vs) [all w] []) : Calls P f vs.toArray w Post := by
  refine calls_of_wp_defers hf hb (h _ _ ⟨?_, rfl, fun t v hv => ?_⟩ (St.start w))
  · simp; omega
  · obtain ⟨_, h2⟩ := argEnv_get vs 0 t v hv
    rw [Nat.sub_zero] at h2
    have hlt : t < vs.length := by
      rcases Nat.lt_or_ge t vs.length with h | h
      · exact h
      · rw [List.getElem?_eq_none h] at h2; cases h2
    rw [Array.getElem?_append_left (by simpa using hlt)]
    simpa using h2
theorem xk_defer {x : Operand} {tys : Array TypeId} {f : FuncId} {fi ca : List Value} (hx : e.ev x = some (.func (.func f) fi.toArray ca.toArray)) (k : XK ⟨N.n, dfd f fi ca :: N.D⟩ w0 (wpList P ops Q rest) e R H) :
    XK N w0 (wpList P ops Q (⟨none, .defer { callee := .value x, args := #[], argTypes := tys }, ty, pos, aft, none⟩ :: rest)) e R H := fun a w hr st => wpList_plain rfl fun K hK => by
  have hrun : (execOp a.eval (⟨none, .defer { callee := .value x, args := #[], argTypes := tys }, ty, pos, aft, none⟩ : Oper)).run P w = .ok (.defer (dfd f fi ca)) w := by
    simp [execOp, resolve, hr.ev hx, Deferred.ofValue, dfd]
  unfold Oper.wp
  rw [hrun]
  exact hK _ _ (k { a with defers := dfd f fi ca :: a.defers } w ⟨hr.size, by show _ :: _ = _ :: _; rw [hr.defers], hr.get⟩ st)
theorem invoke_dfd {f : FuncId} {fi ca : List Value} (hf : callB P f = true) (w : World) : (invoke (.fn (.func f) ca.toArray) fi.toArray).run P w = .ok (.enter f (fi ++ ca).toArray) w := by
  unfold callB at hf
  cases hq : P.funcs[f]? with
  | none => simp [hq] at hf
  | some fn =>
    simp [hq] at hf
    obtain ⟨hf1, hf2⟩ := hf
    cases hb : fn.body with
    | none => simp [hb] at hf2
    | some c => simp [invoke, callFunc, hq, hf1, hb]
theorem XK.leaveR {nn : Nat} {f : FuncId} {fi ca : List Value} {fn : Func} {Post : Ending → World → Prop} (hf : callB P f = true)
    (hcl : ∀ w, St w0 R H w → CallsD P f (fi ++ ca).toArray .returning w fun y u' w' => (∃ v, y = .returned v) ∧ u' = .returning ∧ St w0 R H' w')
    (hres : ∀ a w, Rep ⟨nn, [dfd f fi ca]⟩ e a → St w0 R H' w → ∃ v, (results fn a.tmps).run P w = .ok v w ∧ Post (.returned v) w) :
    XK ⟨nn, [dfd f fi ca]⟩ w0 (bodyPostD P fn Post .ret) e R H := fun a w hr st => by
  show Leaves P fn a.tmps Post a.defers .returning w
  rw [hr.defers]
  refine leaves_cons (by simp) (invoke_dfd hf w) ((hcl w st).mono ?_)
  rintro y u' w' ⟨⟨v, rfl⟩, rfl, st'⟩
  obtain ⟨v', h1, h2⟩ := hres a w' hr st'
  exact ⟨v', h1, h2⟩
theorem XK.leaveP {nn : Nat} {f : FuncId} {fi ca : List Value} {fn : Func} {Post : Ending → World → Prop} {c : List PanicEntry} (hf : callB P f = true)
    (hcl : ∀ w, St w0 R H w → CallsD P f (fi ++ ca).toArray (.panicking c) w fun y u' w' => (∃ v, y = .returned v) ∧ settle u' = .returning ∧ St w0 R H' w')
    (hres : ∀ a w, Rep ⟨nn, [dfd f fi ca]⟩ e a → St w0 R H' w → ∃ v, (results fn a.tmps).run P w = .ok v w ∧ Post (.returned v) w) :
    XK ⟨nn, [dfd f fi ca]⟩ w0 (bodyPostD P fn Post (.panic c)) e R H := fun a w hr st => by
  show Leaves P fn a.tmps Post a.defers (.panicking c) w
  rw [hr.defers]
  refine leaves_cons (by simp) (invoke_dfd hf w) ((hcl w st).mono ?_)
  rintro y u' w' ⟨⟨v, rfl⟩, hu, st'⟩
  obtain ⟨v', h1, h2⟩ := hres a w' hr st'
  show Leaves P fn a.tmps Post [] (settle u') w'
  rw [hu]
  exact ⟨v', h1, h2⟩
end
end Go.Proofs.YtgopaoidgcgalaaGreatDoor
/- A chunk of which just a picture is known; pieces that turn to chunks; calls that write a chunk, or panic. -/
namespace Go.Proofs.YtgopaoidgcgalaaGreatDoor
set_option linter.all false
open Go.RowKit
/-- what a picture of the call's own blocks shows -/
def HP.pic (Φ : Piece → Prop) (hm : ∀ p q : Piece, p.Le q → Φ p → Φ q) : HP := ⟨fun F w => Φ ⟨w, F⟩, fun F w w' h hk => hm ⟨w, F⟩ ⟨w', F⟩ (fun b hb => ⟨hb, hk b hb⟩) h⟩
section
variable {P : Program} {N : Frm} {w0 w : World} {K : Act → World → Prop} {e : Env} {R : List Piece} {H H' : List HP} {Q : Exit → Act → World → Prop} {ops : Array Oper} {rest : List Oper}
variable {d : Nat} {ty : TypeId} {pos : String} {aft : Array Edge}
theorem hlt_of {α : Type} {H : List α} {i : Nat} {p : α} (hi : H[i]? = some p) : i < H.length := (List.getElem?_eq_some_iff.1 hi).1
/-- chunk i, and what may come of it -/
theorem St.chunk (st : St w0 R H w) {i : Nat} {p : HP} (hi : H[i]? = some p) : ∃ F, p.sat F w ∧ (∀ b, F b → b < w.heap.size) ∧ (∀ q ∈ R, q.Le ⟨w, fun b => b < w.heap.size ∧ ¬ F b⟩) ∧ ∀ w' F' q, q.sat F' w' → Turns w w' F F' → St w0 R (H.set i q) w' := by
  obtain ⟨Z, F, hz, hrr, hs, hff, hdd⟩ := st.ex
  refine ⟨F i, hs i p hi, (fun b hb => (hff i b hb).2), (fun q hqR b hb => ⟨⟨hz b (hrr q hqR b hb).1, fun hfb => (hff i b hfb).1 (hrr q hqR b hb).1⟩, (hrr q hqR b hb).2⟩), fun w' F' q hq' ht => ?_⟩
  have hlt := hlt_of hi
  refine ⟨ht.os.trans st.os, ht.tape.trans st.tape, ht.output.trans st.output, Nat.le_trans st.size ht.size, Z, fun j => if j = i then F' else F j, fun b h => Nat.lt_of_lt_of_le (hz b h) ht.size, fun p hp b h => ?_, fun j r hj => ?_, fun j b h => ?_, fun j k b hjk h => ?_⟩
  · exact ⟨(hrr p hp b h).1, (ht.old b (hz b (hrr p hp b h).1) (fun hfb => (hff i b hfb).1 (hrr p hp b h).1)).trans (hrr p hp b h).2⟩
  · rw [List.getElem?_set] at hj
    split at hj
    · rename_i e; subst e
      first | (rw [if_pos hlt] at hj; cases hj) | cases hj
      simpa using hq'
    · rename_i e
      simp only [if_neg (Ne.symm e)]
      exact r.loc _ _ _ (hs j r hj) (fun b hb => ht.old b (hff j b hb).2 (hdd j i b (Ne.symm e) hb))
  · dsimp only at h
    split at h
    · refine ⟨fun hzb => ?_, (ht.new b h).2⟩
      rcases (ht.new b h).1 with h | h
      · exact (hff i b h).1 hzb
      · have := hz b hzb; omega
    · exact ⟨(hff j b h).1, Nat.lt_of_lt_of_le (hff j b h).2 ht.size⟩
  · dsimp only at h ⊢
    split at h <;> split
    · rename_i h1 h2; omega
    · rename_i e1 e2
      intro hk
      rcases (ht.new b h).1 with h | h
      · exact hdd i k b (by omega) h hk
      · have := (hff k b hk).2; omega
    · rename_i e1 e2
      intro hk
      rcases (ht.new b hk).1 with hk | hk
      · exact hdd j i b (by omega) h hk
      · have := (hff j b h).2; omega
    · exact hdd j k b hjk h
/-- chunk i is known otherwise -/
theorem XK.reuse (i : Nat) {p q : HP} (hi : H[i]? = some p) (hq : ∀ F w, p.sat F w → q.sat F w) (h : XK N w0 K e R (H.set i q)) : XK N w0 K e R H := fun a w hr st => by
  obtain ⟨F, hp, hlt, _, hk⟩ := st.chunk hi
  exact h a w hr (hk w F q (hq F w hp) ⟨rfl, rfl, rfl, Nat.le_refl _, fun b hb => ⟨.inl hb, hlt b hb⟩, fun _ _ _ => rfl⟩)
/-- .. not at all -/
theorem XK.drop (i : Nat) {p : HP} (hi : H[i]? = some p) (h : XK N w0 K e R (H.set i HP.emp)) : XK N w0 K e R H := XK.reuse i hi (fun _ _ _ => trivial) h
/-- two pictures are one -/
theorem XK.joinPic {Φ Ψ X : Piece → Prop} {h1 : ∀ p q : Piece, p.Le q → Φ p → Φ q} {h2 : ∀ p q : Piece, p.Le q → Ψ p → Ψ q} {h3 : ∀ p q : Piece, p.Le q → X p → X q} (hX : ∀ p, Φ p → Ψ p → X p) (h : XK N w0 K e R (HP.pic X h3 :: H)) : XK N w0 K e R (HP.pic Φ h1 :: HP.pic Ψ h2 :: H) := fun a w hr st => by
  obtain ⟨Z, F, hz, hrr, hs, hff, hdd⟩ := st.ex
  refine h a w hr ⟨st.os, st.tape, st.output, st.size, Z, fun j => match j with | 0 => fun b => F 0 b ∨ F 1 b | j + 1 => F (j + 2), hz, hrr, fun j r hj => ?_, fun j b hb => ?_, fun j k b hjk hj hk => ?_⟩
  · cases j with
    | zero =>
      simp at hj
      subst hj
      exact hX _ (h1 ⟨w, F 0⟩ _ (fun b hb => ⟨.inl hb, rfl⟩) (hs 0 _ rfl)) (h2 ⟨w, F 1⟩ _ (fun b hb => ⟨.inr hb, rfl⟩) (hs 1 _ rfl))
    | succ j => exact hs (j + 2) r (by simpa using hj)
  · cases j with
    | zero => rcases hb with hb | hb <;> exact hff _ b hb
    | succ j => exact hff _ b hb
  · cases j with
    | zero => cases k with
      | zero => exact hjk rfl
      | succ k => rcases hj with hj | hj
                  · exact hdd 0 (k + 2) b (by omega) hj hk
                  · exact hdd 1 (k + 2) b (by omega) hj hk
    | succ j => cases k with
      | zero => rcases hk with hk | hk
                · exact hdd 0 (j + 2) b (by omega) hk hj
                · exact hdd 1 (j + 2) b (by omega) hk hj
      | succ k => exact hdd (j + 2) (k + 2) b (by omega) hj hk
/-- a piece that is new is the call's own, as a picture -/
theorem XK.ownP {q : Piece} {Φ : Piece → Prop} {hm : ∀ p q : Piece, p.Le q → Φ p → Φ q} (hf : Fresh w0 q) (hR : ∀ p ∈ R, ∀ b, p.Z b → b < w0.heap.size) (hΦ : Φ q) (h : XK N w0 K e R (HP.pic Φ hm :: H)) : XK N w0 K e (q :: R) H := fun a w hr st => by
  obtain ⟨Z, F, hz, hrr, hs, hff, hdd⟩ := st.ex
  have hq := hrr q (by simp)
  refine h a w hr ⟨st.os, st.tape, st.output, st.size, fun b => Z b ∧ ¬ q.Z b, fun j => match j with | 0 => q.Z | j + 1 => F j, fun b hb => hz b hb.1, fun p hp b hb => ?_, fun j r hj => ?_, fun j b hb => ?_, fun j k b hjk hj hk => ?_⟩
  · refine ⟨⟨(hrr p (by simp [hp]) b hb).1, fun hqb => ?_⟩, (hrr p (by simp [hp]) b hb).2⟩
    have h1 := hR p hp b hb
    have h2 := hf b hqb
    omega
  · cases j with
    | zero =>
      simp at hj
      subst hj
      exact hm q _ (fun b hb => ⟨hb, (hq b hb).2⟩) hΦ
    | succ j => exact hs j r (by simpa using hj)
  · cases j with
    | zero => exact ⟨fun hh => hh.2 hb, hz b (hq b hb).1⟩
    | succ j => exact ⟨fun hh => (hff j b hb).1 hh.1, (hff j b hb).2⟩
  · cases j with
    | zero => cases k with
      | zero => exact hjk rfl
      | succ k => exact (hff k b hk).1 (hq b hj).1
    | succ j => cases k with
      | zero => exact (hff j b hj).1 (hq b hk).1
      | succ k => exact hdd j k b (by omega) hj hk
/-- the call returns, with chunk i turned; or panics -/
def OutT (v : Value) (G : Prop) (q : HP) (Pp : Prop) (w : World) (F : Nat → Prop) : Ending → World → Prop := fun y w' => (y = .returned v ∧ G ∧ ∃ F', q.sat F' w' ∧ Turns w w' F F') ∨ (Pp ∧ (∃ T u, y = .panicked (pan (.iface T u))) ∧ ∃ F', Turns w w' F F')
theorem xk_callT (i : Nat) {f : FuncId} {x : Operand} {args : List Operand} {fi ca vs : List Value} {tys : Array TypeId} {p : HP} {v : Value} (q : HP) (G Pp : Prop) (hf : callB P f = true) (hx : e.ev x = some (.func (.func f) fi.toArray ca.toArray)) (ha : e.evs args = some vs) (hi : H[i]? = some p) (hd : d < N.n)
    (hc : ∀ w F, St w0 R H w → p.sat F w → (∀ b, F b → b < w.heap.size) → (∀ q ∈ R, q.Le ⟨w, fun b => b < w.heap.size ∧ ¬ F b⟩) → Calls P f (fi ++ vs ++ ca).toArray w (OutT v G q Pp w F))
    (kp : Pp → ∀ T u, XK N w0 (Q (.panic (pan (.iface T u)))) e R (H.set i HP.emp))
    (k : G → XK N w0 (wpList P ops Q rest) ((d, v) :: e) R (H.set i q)) : XK N w0 (wpList P ops Q (⟨some d, .call { callee := .value x, args := args.toArray, argTypes := tys }, ty, pos, aft, none⟩ :: rest)) e R H := fun a w hr st => wpList_plain rfl fun K hK => by
  unfold callB at hf
  cases hq : P.funcs[f]? with
  | none => simp [hq] at hf
  | some fn =>
    simp [hq] at hf
    obtain ⟨hf1, hf2⟩ := hf
    have hrun : (execOp a.eval (⟨some d, .call { callee := .value x, args := args.toArray, argTypes := tys }, ty, pos, aft, none⟩ : Oper)).run P w = .ok (.enter f (fi ++ vs ++ ca).toArray) w := by
      cases hb : fn.body with
      | none => simp [hb] at hf2
      | some c => simp [execOp, resolve, hr.ev hx, Deferred.ofValue, invoke, callFunc, hq, hf1, hb, hr.evs ha]
    obtain ⟨F, hp, hlt, hle, hset⟩ := st.chunk hi
    unfold Oper.wp
    rw [hrun]
    refine (hc w F st hp hlt hle).mono fun y w' hy => ?_
    rcases hy with ⟨rfl, hG, F', hs, ht⟩ | ⟨hpp, ⟨T, u, rfl⟩, F', ht⟩
    · exact hK _ _ (k hG _ _ (hr.put hd v) (hset w' F' q hs ht))
    · exact kp hpp T u a w' hr (hset w' F' HP.emp trivial ht)
theorem Below.drewN (w : World) (n : Nat) : Below w.heap.size w (w.drewN n) := ⟨rfl, rfl, rfl, Nat.le_refl _, fun _ _ => rfl⟩
end
end Go.Proofs.YtgopaoidgcgalaaGreatDoor
/- Events, as they lie in memory; what an audit counts and finds of them, in plain words; dead and each, walked. -/
namespace Go.Proofs.YtgopaoidgcgalaaGreatDoor
set_option linter.all false
open Go.RowKit Go.Shelf
attribute [local go_sem] Oper.semAt_some
/-- an event: its cells, one by one; wA, wc: the slice of its words ws -/
structure Ev where
  kind : Int
  task : Int
  ck : Int
  dev : Int
  reg : Int
  cv : Int
  err : Int
  rv : Int
  aid : Int
  adev : Int
  adead : Bool
  av : Int
  alive : Bool
  wA : Option Addr
  wc : Nat
  ws : List Int
def Ev.cells (e : Ev) : List Value :=
  [.int .u8 e.kind, .int .i64 e.task, .int .u8 e.ck, .int .i64 e.dev, .int .i64 e.reg, .int .u32 e.cv, .int .i64 e.err, .int .u32 e.rv, .int .i64 e.aid, .int .i64 e.adev, .bool e.adead, .int .u32 e.av, .bool e.alive, .slice e.wA e.ws.length e.wc]
theorem Ev.cells_len (e : Ev) : e.cells.length = 14 := rfl
/-- the event at a place -/
def EvAt (w : World) (b o : Nat) (e : Ev) : Prop := ∀ f u, e.cells[f]? = some u → w.cell? ⟨b, o + f, none⟩ = some u
/-- words as cells -/
def u32Cells (zs : List Int) : List Value := zs.map (Value.int .u32)
def EvWs (w : World) (B : Nat) (e : Ev) : Prop := Sl w B 1 e.wA e.ws.length (u32Cells e.ws)
/-- events in memory: a slice of 14 cells an element; their words -/
def Evs (w : World) (B : Nat) (A : Option Addr) (evs : List Ev) : Prop := Sl w B 14 A evs.length (evs.flatMap Ev.cells) ∧ ∀ e ∈ evs, EvWs w B e
theorem Evs.at_ {w : World} {B : Nat} {A : Option Addr} {evs : List Ev} (h : Evs w B A evs) {k : Nat} {e : Ev} (hk : evs[k]? = some e) :
    ∃ b off, A = some ⟨b, off, none⟩ ∧ b < B ∧ EvAt w b (off + k * 14) e := by
  have hlt : k < evs.length := by
    rcases Nat.lt_or_ge k evs.length with h | h
    · exact h
    · rw [List.getElem?_eq_none h] at hk; cases hk
  obtain ⟨b, off, hA, hb, hc⟩ := Sl.at_ h.1 hlt
  refine ⟨b, off, hA, hb, fun f u hu => ?_⟩
  have hf : f < 14 := by
    rcases Nat.lt_or_ge f 14 with h | h
    · exact h
    · rw [List.getElem?_eq_none (by rw [Ev.cells_len]; exact h)] at hu; cases hu
  exact hc f u (by rw [flat_get Ev.cells 14 evs (fun _ _ => rfl) k f e hk hf]; exact hu)
theorem Evs.below {w w' : World} {B : Nat} {A : Option Addr} {evs : List Ev} (h : Evs w B A evs) (hb : Below B w w') : Evs w' B A evs := ⟨h.1.below hb, fun e he => (h.2 e he).below hb⟩
theorem Evs.thn {w w' : World} {A : Option Addr} {evs : List Ev} (h : Evs w w.heap.size A evs) (hb : Below w.heap.size w w') : Evs w' w'.heap.size A evs := ⟨h.1.thn hb, fun e he => (h.2 e he).thn hb⟩

end Go.Proofs.YtgopaoidgcgalaaGreatDoor
/- The small logic: pointers that are not nil, parts of slices, maps of counts; events that a piece shows. -/
namespace Go.Proofs.YtgopaoidgcgalaaGreatDoor
set_option linter.all false
open Go.RowKit
section
variable {P : Program} {N : Frm} {w0 : World} {e : Env} {R : List Piece} {H : List HP} {Q : Exit → Act → World → Prop} {ops : Array Oper} {rest : List Oper}
variable {d : Nat} {ty : TypeId} {pos : String} {aft : Array Edge}
theorem does_nilC {x : Operand} {a : Addr} (hx : e.ev x = some (.pointer (some a))) : Does P N w0 e R H ⟨some d, .nilCheck x, ty, pos, aft, none⟩ (.pointer (some a)) := does_of (fun b w hr => by simp [execOp, hr.ev hx])
theorem xk_nilC {x : Operand} {a : Addr} (hx : e.ev x = some (.pointer (some a))) (hd : d < N.n) (k : XK N w0 (wpList P ops Q rest) ((d, .pointer (some a)) :: e) R H) : XK N w0 (wpList P ops Q (⟨some d, .nilCheck x, ty, pos, aft, none⟩ :: rest)) e R H :=
  xk_pure hd (fun b w hr => by simp [execOp, hr.ev hx]) k
theorem sl_elem {t el : TypeId} (ht : P.underlying t = some (.slice el)) : P.underlying t = some (.slice (P.elem t)) := by
  unfold Program.elem
  rw [ht]
theorem elem_eq {t el : TypeId} (ht : P.underlying t = some (.slice el)) : P.elem t = el := by unfold Program.elem; rw [ht]
/-- the first k of a row -/
theorem run_sliceH {t el : TypeId} {sz n c k : Nat} {A : Option Addr} {kd : IntKind} (ht : P.underlying t = some (.slice el)) (hsz : (P.info? el).map (·.size) = some sz) (hk : k ≤ c) (w : World) :
    ∃ A', (0 < k → (∃ b off, A = some ⟨b, off, none⟩) → A' = A) ∧ (Instr.sliceAt t (.slice A n c) none (some (.int kd (k : Int))) none).run P w = .ok (.slice A' k c) w := by
  obtain ⟨i, hi, hs⟩ := Option.map_eq_some_iff.1 hsz
  have hel := elem_eq ht
  refine ⟨_, ?_, by rw [run_sliceAt_slice w t _ _ _ _ (sl_elem ht), run_slice_h w t A n c (sl_elem ht) kd k (by omega) (by omega), hel]; simp [sizeOf, typeInfo, hi, sliced]; rfl⟩
  rintro h0 ⟨b, off, rfl⟩
  split
  · rfl
  · simp [Addr.add]
/-- all but the first k -/
theorem run_sliceL {t el : TypeId} {sz n c k : Nat} {A : Option Addr} {kd : IntKind} (ht : P.underlying t = some (.slice el)) (hsz : (P.info? el).map (·.size) = some sz) (hk : k ≤ n) (hc : n ≤ c) (w : World) :
    ∃ A', (k < n → ∀ b off, A = some ⟨b, off, none⟩ → A' = some ⟨b, off + k * sz, none⟩) ∧ (Instr.sliceAt t (.slice A n c) (some (.int kd (k : Int))) none none).run P w = .ok (.slice A' (n - k) (c - k)) w := by
  obtain ⟨i, hi, hs⟩ := Option.map_eq_some_iff.1 hsz
  have hel := elem_eq ht
  refine ⟨_, ?_, by rw [run_sliceAt_slice w t _ _ _ _ (sl_elem ht), run_slice_l w t A n c (sl_elem ht) kd k (by omega) (by omega), hel]; simp [sizeOf, typeInfo, hi, sliced]; rfl⟩
  rintro h0 b off rfl
  rw [if_neg (by omega)]
  simp [Addr.add, hs]
theorem xk_sliceH (k : Nat) {x hi : Operand} {t el : TypeId} {sz n c : Nat} {A : Option Addr} {kd : IntKind} {j : Int} (ht : P.underlying t = some (.slice el)) (hsz : (P.info? el).map (·.size) = some sz) (hx : e.ev x = some (.slice A n c)) (hh : e.ev hi = some (.int kd j)) (hj : j = (k : Int)) (hk : k ≤ c) (hd : d < N.n)
    (kk : ∀ A', (0 < k → (∃ b off, A = some ⟨b, off, none⟩) → A' = A) → XK N w0 (wpList P ops Q rest) ((d, .slice A' k c) :: e) R H) : XK N w0 (wpList P ops Q (⟨some d, .slice t x none (some hi) none, ty, pos, aft, none⟩ :: rest)) e R H :=
  xk_run rfl fun a w hr st => by
    subst hj
    obtain ⟨A', h1, h2⟩ := run_sliceH (P := P) (kd := kd) ht hsz hk w (n := n) (A := A)
    exact ⟨_, w, by simp only [execOp, hr.ev hx, Option.map_some, Option.map_none, hr.ev hh, Sem.run_bind, h2, Result.andThen_ok, Sem.run_pure], kk A' h1 _ _ (hr.put hd _) st⟩
theorem xk_sliceL (k : Nat) {x lo : Operand} {t el : TypeId} {sz n c : Nat} {A : Option Addr} {kd : IntKind} {j : Int} (ht : P.underlying t = some (.slice el)) (hsz : (P.info? el).map (·.size) = some sz) (hx : e.ev x = some (.slice A n c)) (hh : e.ev lo = some (.int kd j)) (hj : j = (k : Int)) (hk : k ≤ n) (hc : n ≤ c) (hd : d < N.n)
    (kk : ∀ A', (k < n → ∀ b off, A = some ⟨b, off, none⟩ → A' = some ⟨b, off + k * sz, none⟩) → XK N w0 (wpList P ops Q rest) ((d, .slice A' (n - k) (c - k)) :: e) R H) : XK N w0 (wpList P ops Q (⟨some d, .slice t x (some lo) none none, ty, pos, aft, none⟩ :: rest)) e R H :=
  xk_run rfl fun a w hr st => by
    subst hj
    obtain ⟨A', h1, h2⟩ := run_sliceL (P := P) (kd := kd) ht hsz hk hc w (A := A)
    exact ⟨_, w, by simp only [execOp, hr.ev hx, Option.map_some, Option.map_none, hr.ev hh, Sem.run_bind, h2, Result.andThen_ok, Sem.run_pure], kk A' h1 _ _ (hr.put hd _) st⟩
end
theorem SlS.takeP {p : Piece} {sz n k : Nat} {A A' : Option Addr} {xs : List Value} (h : SlS p sz A n xs) (hk : k ≤ n) (hA : 0 < k → (∃ b off, A = some ⟨b, off, none⟩) → A' = A) : SlS p sz A' k (xs.take (k * sz)) := by
  refine ⟨by rw [List.length_take, h.1]; exact Nat.min_eq_left (Nat.mul_le_mul_right _ hk), fun h0 => ?_⟩
  obtain ⟨b, off, hA2, hz, hc⟩ := h.2 (by omega)
  refine ⟨b, off, by rw [hA h0 ⟨b, off, hA2⟩, hA2], hz, fun j u hu => hc j u ?_⟩
  rw [List.getElem?_take] at hu
  split at hu
  · exact hu
  · cases hu
/-- events that a piece shows -/
def EvS (p : Piece) (A : Option Addr) (evs : List Ev) : Prop := SlS p 14 A evs.length (evs.flatMap Ev.cells)
theorem EvS.le {p q : Piece} {A : Option Addr} {evs : List Ev} (h : EvS p A evs) (hl : p.Le q) : EvS q A evs := SlS.le h hl
theorem EvS.ev {p : Piece} {b off : Nat} {evs : List Ev} (h : EvS p (some ⟨b, off, none⟩) evs) {k : Nat} {x : Ev} (hk : evs[k]? = some x) : p.Z b ∧ ∀ f u, x.cells[f]? = some u → p.w.cell? ⟨b, off + k * 14 + f, none⟩ = some u := by
  have hlt := (List.getElem?_eq_some_iff.1 hk).1
  obtain ⟨b', off', hA, hb, hc⟩ := SlS.at_ h hlt
  cases hA
  refine ⟨hb, fun f u hu => hc f u ?_⟩
  have hf : f < 14 := by
    rw [← Ev.cells_len x]
    rcases Nat.lt_or_ge f x.cells.length with h | h
    · exact h
    · rw [List.getElem?_eq_none h] at hu; cases hu
  rw [flat_get Ev.cells 14 evs (fun _ _ => Ev.cells_len _) k f x hk hf, hu]
/-! counts, as a map -/
end Go.Proofs.YtgopaoidgcgalaaGreatDoor
/-
  DERIVED: THE SHELF's CONTRACTS AT THIS DUMP, IN PLAIN WORDS (tools/lay-plain.mjs out of 'YtgopaoidgcgalaaGreatDoorShelf.lean', which tools/lay-shelf.mjs wrote): THE SAME DECLARATIONS UNDER THE SAME NAMES: 'import', 'namespace', 'open', 'def', 'theorem' AND NOTHING ELSE: no command of the shelf's: FOR A HAND-IN. Each laying: the table of numbers ('.._ren') and one theorem, a field a fact of the dump's own or the kernel's comparison; each contract: ONE APPLICATION.
-/
namespace Go.Proofs
open Go.Shelf
def Tryz.lays145_ren : Go.Shelf.Ren := ⟨fun | 145 => 24 | 220 => 74 | 219 => 117 | 217 => 132 | 225 => 133 | 224 => 134 | 267 => 135 | 266 => 150 | 314 => 151 | n => n, fun | 9 => 9 | 4 => 4 | 59 => 60 | 3 => 3 | 5 => 5 | 46 => 149 | 146 => 165 | 51 => 48 | n => n, fun | 1 => 0 | n => n⟩
theorem Tryz.lays145 : Go.Proofs.Lays.n145 Tryz.prog Tryz.lays145_ren := {
  mixed := by kernel_rfl
  f145 := Tryz.func24.trans (congrArg some (by kernel_rfl))
  f217 := Tryz.func132.trans (congrArg some (by kernel_rfl))
  f219 := Tryz.func117.trans (congrArg some (by kernel_rfl))
  f220 := Tryz.func74.trans (congrArg some (by kernel_rfl))
  f224 := Tryz.func134.trans (congrArg some (by kernel_rfl))
  f225 := Tryz.func133.trans (congrArg some (by kernel_rfl))
  f266 := Tryz.func150.trans (congrArg some (by kernel_rfl))
  f267 := Tryz.func135.trans (congrArg some (by kernel_rfl))
  f314 := Tryz.func151.trans (congrArg some (by kernel_rfl))
  t3 := Tryz.underlying3
  a3 := Tryz.isAgg3
  z3 := Tryz.sizeOf3
  v3 := Tryz.zeroValue3
  t4 := Tryz.underlying4
  a4 := Tryz.isAgg4
  z4 := Tryz.sizeOf4
  v4 := Tryz.zeroValue4
  t5 := Tryz.underlying5
  a5 := Tryz.isAgg5
  z5 := Tryz.sizeOf5
  v5 := Tryz.zeroValue5
  t9 := Tryz.underlying9
  a9 := Tryz.isAgg9
  z9 := Tryz.sizeOf9
  v9 := Tryz.zeroValue9
  t46 := Tryz.underlying149
  a46 := Tryz.isAgg149
  z46 := Tryz.sizeOf149
  v46 := Tryz.zeroValue149
  t51 := Tryz.underlying48
  a51 := Tryz.isAgg48
  z51 := Tryz.sizeOf48
  v51 := Tryz.zeroValue48
  t59 := Tryz.underlying60
  a59 := Tryz.isAgg60
  z59 := Tryz.sizeOf60
  v59 := Tryz.zeroValue60
  t146 := Tryz.underlying165
  a146 := Tryz.isAgg165
  z146 := Tryz.sizeOf165
  v146 := Tryz.zeroValue165
  g1 := by kernel_rfl }
open Go.RowKit Go.Lib in
/-- strings.Cut: "Cut slices s around the first instance of sep, returning the text before and after sep. The found result reports whether sep appears in s. If sep does not appear in s, cut returns s, "", false.": IT RETURNS 'Lib.cut s sep'; the world is as it was but for the count of draws. (LAID: no walk: one application.) -/
theorem Tryz.strings_Cut (s sep : ByteArray) (m : Int) (w : World) (hs : s.size < 4294967281) (hm : w.cell? ⟨0, 0, none⟩ = some (.int .i64 m)) :
    Calls Tryz.prog 24 #[.string s, .string sep] w fun e w' => e = .returned (.tuple #[.string ⟨(Lib.cut s.data.toList sep.data.toList).1.toArray⟩, .string ⟨(Lib.cut s.data.toList sep.data.toList).2.1.toArray⟩, .bool (Lib.cut s.data.toList sep.data.toList).2.2]) ∧ ∃ n, w' = w.drewN n := Any.strings_Cut Tryz.lays145 s sep m w hs hm
def Tryz.laysM145_ren : Go.Shelf.Ren := ⟨fun | 145 => 24 | 220 => 74 | 219 => 117 | 217 => 132 | 225 => 133 | 224 => 134 | 267 => 135 | 266 => 150 | 314 => 151 | n => n, fun | 9 => 9 | 4 => 4 | 59 => 60 | 3 => 3 | 5 => 5 | 46 => 149 | 146 => 165 | 51 => 48 | n => n, fun | 1 => 0 | n => n⟩
theorem Tryz.laysM145 : Go.Proofs.LaysM.n145 Tryz.prog Tryz.laysM145_ren := {
  mixed := by kernel_rfl
  f145 := Tryz.func24.trans (congrArg some (by kernel_rfl))
  f217 := Tryz.func132.trans (congrArg some (by kernel_rfl))
  f219 := Tryz.func117.trans (congrArg some (by kernel_rfl))
  f220 := Tryz.func74.trans (congrArg some (by kernel_rfl))
  f224 := Tryz.func134.trans (congrArg some (by kernel_rfl))
  f225 := Tryz.func133.trans (congrArg some (by kernel_rfl))
  f266 := Tryz.func150.trans (congrArg some (by kernel_rfl))
  f267 := Tryz.func135.trans (congrArg some (by kernel_rfl))
  f314 := Tryz.func151.trans (congrArg some (by kernel_rfl))
  t3 := Tryz.underlying3
  a3 := Tryz.isAgg3
  z3 := Tryz.sizeOf3
  v3 := Tryz.zeroValue3
  t4 := Tryz.underlying4
  a4 := Tryz.isAgg4
  z4 := Tryz.sizeOf4
  v4 := Tryz.zeroValue4
  t5 := Tryz.underlying5
  a5 := Tryz.isAgg5
  z5 := Tryz.sizeOf5
  v5 := Tryz.zeroValue5
  t9 := Tryz.underlying9
  a9 := Tryz.isAgg9
  z9 := Tryz.sizeOf9
  v9 := Tryz.zeroValue9
  t46 := Tryz.underlying149
  a46 := Tryz.isAgg149
  z46 := Tryz.sizeOf149
  v46 := Tryz.zeroValue149
  t51 := Tryz.underlying48
  a51 := Tryz.isAgg48
  z51 := Tryz.sizeOf48
  v51 := Tryz.zeroValue48
  t59 := Tryz.underlying60
  a59 := Tryz.isAgg60
  z59 := Tryz.sizeOf60
  v59 := Tryz.zeroValue60
  t146 := Tryz.underlying165
  a146 := Tryz.isAgg165
  z146 := Tryz.sizeOf165
  v146 := Tryz.zeroValue165
  g1 := by kernel_rfl
  i3 := by kernel_rfl
  i4 := by kernel_rfl
  i5 := by kernel_rfl
  i9 := by kernel_rfl
  i46 := by kernel_rfl
  i51 := by kernel_rfl
  i59 := by kernel_rfl
  i146 := by kernel_rfl
  m1 := by kernel_rfl
  s1_3 := fun w h => Go.Proofs.cell_of_shapedOpen_int (zero := #[.int .i64 0]) (t := 3) h (of_decide_eq_true (by kernel_rfl)) (by kernel_rfl) rfl (by kernel_rfl) (by kernel_rfl) Tryz.underlying3 }
def Tryz.lays146_ren : Go.Shelf.Ren := ⟨fun | 146 => 26 | 221 => 81 | 268 => 118 | 138 => 119 | 143 => 120 | 195 => 136 | 197 => 137 | 218 => 138 | 219 => 117 | 260 => 152 | 217 => 132 | 225 => 133 | 224 => 134 | 267 => 135 | 266 => 150 | 314 => 151 | n => n, fun | 9 => 9 | 31 => 42 | 3 => 3 | 4 => 4 | 0 => 0 | 105 => 150 | 21 => 21 | 5 => 5 | 46 => 149 | 119 => 174 | 139 => 177 | 138 => 176 | 146 => 165 | 51 => 48 | n => n, fun | 1 => 0 | 3 => 2 | 4 => 3 | n => n⟩
theorem Tryz.lays146 : Go.Proofs.Lays.n146 Tryz.prog Tryz.lays146_ren := {
  mixed := by kernel_rfl
  f138 := Tryz.func119.trans (congrArg some (by kernel_rfl))
  f143 := Tryz.func120.trans (congrArg some (by kernel_rfl))
  f146 := Tryz.func26.trans (congrArg some (by kernel_rfl))
  f195 := Tryz.func136.trans (congrArg some (by kernel_rfl))
  f197 := Tryz.func137.trans (congrArg some (by kernel_rfl))
  f217 := Tryz.func132.trans (congrArg some (by kernel_rfl))
  f218 := Tryz.func138.trans (congrArg some (by kernel_rfl))
  f219 := Tryz.func117.trans (congrArg some (by kernel_rfl))
  f221 := Tryz.func81.trans (congrArg some (by kernel_rfl))
  f224 := Tryz.func134.trans (congrArg some (by kernel_rfl))
  f225 := Tryz.func133.trans (congrArg some (by kernel_rfl))
  f260 := Tryz.func152.trans (congrArg some (by kernel_rfl))
  f266 := Tryz.func150.trans (congrArg some (by kernel_rfl))
  f267 := Tryz.func135.trans (congrArg some (by kernel_rfl))
  f268 := Tryz.func118.trans (congrArg some (by kernel_rfl))
  f314 := Tryz.func151.trans (congrArg some (by kernel_rfl))
  t0 := Tryz.underlying0
  a0 := Tryz.isAgg0
  z0 := Tryz.sizeOf0
  v0 := Tryz.zeroValue0
  t3 := Tryz.underlying3
  a3 := Tryz.isAgg3
  z3 := Tryz.sizeOf3
  v3 := Tryz.zeroValue3
  t4 := Tryz.underlying4
  a4 := Tryz.isAgg4
  z4 := Tryz.sizeOf4
  v4 := Tryz.zeroValue4
  t5 := Tryz.underlying5
  a5 := Tryz.isAgg5
  z5 := Tryz.sizeOf5
  v5 := Tryz.zeroValue5
  t9 := Tryz.underlying9
  a9 := Tryz.isAgg9
  z9 := Tryz.sizeOf9
  v9 := Tryz.zeroValue9
  t21 := Tryz.underlying21
  a21 := Tryz.isAgg21
  z21 := Tryz.sizeOf21
  v21 := Tryz.zeroValue21
  t31 := Tryz.underlying42
  a31 := Tryz.isAgg42
  z31 := Tryz.sizeOf42
  v31 := Tryz.zeroValue42
  t46 := Tryz.underlying149
  a46 := Tryz.isAgg149
  z46 := Tryz.sizeOf149
  v46 := Tryz.zeroValue149
  t51 := Tryz.underlying48
  a51 := Tryz.isAgg48
  z51 := Tryz.sizeOf48
  v51 := Tryz.zeroValue48
  t105 := Tryz.underlying150
  a105 := Tryz.isAgg150
  z105 := Tryz.sizeOf150
  v105 := Tryz.zeroValue150
  t119 := Tryz.underlying174
  a119 := Tryz.isAgg174
  z119 := Tryz.sizeOf174
  t138 := Tryz.underlying176
  a138 := Tryz.isAgg176
  z138 := Tryz.sizeOf176
  v138 := Tryz.zeroValue176
  t139 := Tryz.underlying177
  a139 := Tryz.isAgg177
  z139 := Tryz.sizeOf177
  v139 := Tryz.zeroValue177
  t146 := Tryz.underlying165
  a146 := Tryz.isAgg165
  z146 := Tryz.sizeOf165
  v146 := Tryz.zeroValue165
  g1 := by kernel_rfl
  g3 := by kernel_rfl
  g4 := by kernel_rfl }
open Go.RowKit Go.Lib in
/-- strings.Split. (LAID: no walk: one application.) -/
theorem Tryz.strings_Split (s sep : ByteArray) (m : Int) (w : World) (hs : s.size < 4294967281) (hm : w.cell? ⟨0, 0, none⟩ = some (.int .i64 m)) (h1 : 1 ≤ sep.size) :
    Calls Tryz.prog 26 #[.string s, .string sep] w fun e w' =>
      e = .returned (.slice (some ⟨w.heap.size, 0, none⟩) (Lib.countB s sep + 1) (Lib.countB s sep + 1)) ∧ w' = w.alloc (.cells ((Lib.splitB sep 0 (Lib.countB s sep) s).map Value.string).toArray 9) := Any.strings_Split Tryz.lays146 (by kernel_rfl) s sep m w hs hm h1
end Go.Proofs
/- strings.Builder as a chunk; FormatUint. -/
namespace Go.Proofs.YtgopaoidgcgalaaGreatDoor
set_option linter.all false
open Go.RowKit
section
variable {P : Program} {N : Frm} {w0 : World} {e : Env} {R : List Piece} {H : List HP} {Q : Exit → Act → World → Prop} {ops : Array Oper} {rest : List Oper}
variable {d : Nat} {ty : TypeId} {pos : String} {aft : Array Edge}
end
/-- a builder that has the bytes l -/
abbrev BlX (b : Nat) (l : List UInt8) : Type := {x : Value × Option Addr × Nat × Nat // (x.1 = .pointer none ∨ x.1 = .pointer (some ⟨b, 0, none⟩)) ∧ x.2.2.1 = l.length}
def BlX.hp {b : Nat} {l : List UInt8} (x : BlX b l) : HP := HP.many [HP.own 5 1 (.slice x.1.2.1 x.1.2.2.1 x.1.2.2.2) x.1.2.2.1 (Lib.byteCells l), HP.blk b 76 [x.1.1, .slice x.1.2.1 x.1.2.2.1 x.1.2.2.2]]
end Go.Proofs.YtgopaoidgcgalaaGreatDoor
/- package lines: words. -/
namespace Go.Proofs.YtgopaoidgcgalaaGreatDoor
set_option linter.all false
open Go.RowKit
def bAt (s : ByteArray) (i : Nat) : UInt8 := s[i]?.getD 0
theorem bAt_get {s : ByteArray} {i : Nat} (h : i < s.size) : s[i]? = some (bAt s i) := by rw [bAt, ByteArray.getElem?_lt' s i h]; rfl
theorem drop_bAt {s : ByteArray} {k : Nat} (h : k < s.size) : s.data.toList.drop k = bAt s k :: s.data.toList.drop (k + 1) := by
  have hl : k < s.data.toList.length := by simpa using h
  rw [List.drop_eq_getElem_cons hl, bAt, ByteArray.getElem?_lt' s k h]
  rfl
theorem drop_end {s : ByteArray} {k : Nat} (h : s.size ≤ k) : s.data.toList.drop k = [] := List.drop_eq_nil_of_le (by simpa using h)
/-- digits are read -/
def digL : List UInt8 → Nat → Option Nat
  | [], n => some n
  | b :: r, n => if b.toNat < 48 ∨ 57 < b.toNat then none else digL r (n * 10 + (b.toNat - 48))
def numBad (s : ByteArray) : Prop := s.size < 1 ∨ 15 < s.size ∨ (1 < s.size ∧ ((bAt s 0).toNat : Int) = 48)
instance (s : ByteArray) : Decidable (numBad s) := by unfold numBad; infer_instance
def numF (s : ByteArray) : Option Nat := if numBad s then none else digL s.data.toList 0
def numV (o : Option Nat) : Value := .tuple #[.int .u64 ((o.getD 0 : Nat) : Int), .bool o.isSome]
theorem digL_lt : ∀ (l : List UInt8) (n m : Nat), digL l n = some m → m < (n + 1) * 10 ^ l.length
  | [], n, m, h => by simp [digL] at h; simp; omega
  | b :: r, n, m, h => by
    unfold digL at h
    split at h
    · cases h
    · have := digL_lt r _ _ h
      have hp : 0 < 10 ^ r.length := Nat.pow_pos (by omega)
      rw [List.length_cons, Nat.pow_succ, Nat.mul_comm (10 ^ r.length) 10, ← Nat.mul_assoc]
      exact Nat.lt_of_lt_of_le this (Nat.mul_le_mul_right _ (by omega))
theorem numF_lt {s : ByteArray} {n : Nat} (h : numF s = some n) : n < 1000000000000000 := by
  unfold numF at h
  split at h
  · cases h
  · rename_i hb
    have := digL_lt _ _ _ h
    have hs : s.data.toList.length ≤ 15 := by
      have : s.data.toList.length = s.size := by simp
      rw [this]; unfold numBad at hb; omega
    have hp := Nat.pow_le_pow_right (n := 10) (by omega) hs
    omega

theorem number_ok (s : ByteArray) (hs : s.size < 4294967296) (w : World) :
    Calls Tryz.prog 13 #[.string s] w (Rt (numV (numF s)) w) := by
  refine XK.enter (vs := [.string s]) Tryz.func13 rfl Tryz.ntmps13 (by simp) ?_
  refine XK.seq ?_

  refine XK.region ?_
  refine xk_assign rfl (by decide) ?_
  refine xk_assign rfl (by decide) ?_
  refine XK.nilN ?_
  refine XK.seq ?_
  refine XK.cutB 23 (s.size < 1 ∨ 15 < s.size ∨ (1 < s.size ∧ ((bAt s 0).toNat : Int) = 48)) ?_ ?_
  · skip

    refine XK.region ?_
    refine xk_move rfl (by decide) ?_
    refine xk_lenS (by kernel_rfl) rfl (by decide) ?_
    refine xk_lss rfl rfl (by decide) ?_
    refine xk_move rfl (by decide) ?_
    (first | refine xk_split (t := 9) rfl (fun hg => ?_) (fun hg => ?_) | refine xk_splitB (t := 9) rfl (fun hg => ?_) (fun hg => ?_))
    ·
      refine xk_guardF rfl rfl rfl (by decide) ?_
      refine xk_guardF rfl rfl rfl (by decide) ?_
      refine xk_guardF rfl rfl rfl (by decide) ?_
      (first | refine xk_pickT rfl rfl (by decide) ?_ | refine xk_pickF rfl rfl (by decide) ?_)
      refine xk_move rfl (by decide) ?_
      refine xk_guardF rfl rfl rfl (by decide) ?_
      refine xk_guardF rfl rfl rfl (by decide) ?_
      refine xk_guardF rfl rfl rfl (by decide) ?_
      refine xk_guardF rfl rfl rfl (by decide) ?_
      refine xk_guardU rfl rfl (by decide) ?_
      refine xk_guardU rfl rfl (by decide) ?_
      refine xk_guardU rfl rfl (by decide) ?_
      refine xk_guardF rfl rfl rfl (by decide) ?_
      (first | refine xk_pickT rfl rfl (by decide) ?_ | refine xk_pickF rfl rfl (by decide) ?_)
      refine XK.nilN ?_
      exact XK.meetB (by repeat (first | exact trivial | refine ⟨rfl, ?_⟩)) (by first | (refine get_iff rfl ?_; omega) | (refine get_iff rfl ?_; simp_all; done) | (refine get_false rfl ?_; first | omega | (simp_all; done)) | (refine get_true rfl ?_; first | omega | (simp_all; done)) | (refine get_bool rfl ?_; simp_all; done) | (refine get_iff rfl ⟨fun hh => ?_, fun hh => ?_⟩ <;> first | omega | (simp_all; done) | (simp_all; omega)) | (exfalso; omega))
    ·
      refine xk_guardT rfl rfl ?_; refine xk_move rfl (by decide) ?_
      refine xk_guardT rfl rfl ?_; refine xk_lenS (by kernel_rfl) rfl (by decide) ?_
      refine xk_guardT rfl rfl ?_; refine xk_gtr rfl rfl (by decide) ?_
      (first | refine xk_pickT rfl rfl (by decide) ?_ | refine xk_pickF rfl rfl (by decide) ?_)
      refine xk_move rfl (by decide) ?_
      (first | refine xk_split (t := 14) rfl (fun hg => ?_) (fun hg => ?_) | refine xk_splitB (t := 14) rfl (fun hg => ?_) (fun hg => ?_))
      ·
        refine xk_guardF rfl rfl rfl (by decide) ?_
        refine xk_guardF rfl rfl rfl (by decide) ?_
        refine xk_guardF rfl rfl rfl (by decide) ?_
        refine xk_guardF rfl rfl rfl (by decide) ?_
        refine xk_guardU rfl rfl (by decide) ?_
        refine xk_guardU rfl rfl (by decide) ?_
        refine xk_guardU rfl rfl (by decide) ?_
        refine xk_guardF rfl rfl rfl (by decide) ?_
        (first | refine xk_pickT rfl rfl (by decide) ?_ | refine xk_pickF rfl rfl (by decide) ?_)
        refine XK.nilN ?_
        exact XK.meetB (by repeat (first | exact trivial | refine ⟨rfl, ?_⟩)) (by first | (refine get_iff rfl ?_; omega) | (refine get_iff rfl ?_; simp_all; done) | (refine get_false rfl ?_; first | omega | (simp_all; done)) | (refine get_true rfl ?_; first | omega | (simp_all; done)) | (refine get_bool rfl ?_; simp_all; done) | (refine get_iff rfl ⟨fun hh => ?_, fun hh => ?_⟩ <;> first | omega | (simp_all; done) | (simp_all; omega)) | (exfalso; omega))
      ·
        refine xk_guardT rfl rfl ?_; refine xk_move rfl (by decide) ?_
        refine xk_guardT rfl rfl ?_; refine xk_lenS (by kernel_rfl) rfl (by decide) ?_
        refine xk_guardT rfl rfl ?_; refine xk_gtr rfl rfl (by decide) ?_
        refine xk_guardT rfl rfl ?_; refine xk_move rfl (by decide) ?_
        (first | refine xk_split (t := 18) rfl (fun hg => ?_) (fun hg => ?_) | refine xk_splitB (t := 18) rfl (fun hg => ?_) (fun hg => ?_))
        ·
          refine xk_guardT rfl rfl ?_; refine xk_move rfl (by decide) ?_
          refine xk_guardT rfl rfl ?_; refine xk_byte 0 (by kernel_rfl) rfl rfl rfl (bAt_get (by omega)) (by decide) ?_
          refine xk_guardT rfl rfl ?_; refine xk_eql rfl rfl (by decide) ?_
          refine xk_guardT rfl rfl ?_; (first | refine xk_pickT rfl rfl (by decide) ?_ | refine xk_pickF rfl rfl (by decide) ?_)
          (first | refine xk_pickT rfl rfl (by decide) ?_ | refine xk_pickF rfl rfl (by decide) ?_)
          refine XK.nilN ?_
          exact XK.meetB (by repeat (first | exact trivial | refine ⟨rfl, ?_⟩)) (by first | (refine get_iff rfl ?_; omega) | (refine get_iff rfl ?_; simp_all; done) | (refine get_false rfl ?_; first | omega | (simp_all; done)) | (refine get_true rfl ?_; first | omega | (simp_all; done)) | (refine get_bool rfl ?_; simp_all; done) | (refine get_iff rfl ⟨fun hh => ?_, fun hh => ?_⟩ <;> first | omega | (simp_all; done) | (simp_all; omega)) | (exfalso; omega))
        ·
          refine xk_guardF rfl rfl rfl (by decide) ?_
          refine xk_guardF rfl rfl rfl (by decide) ?_
          refine xk_guardF rfl rfl rfl (by decide) ?_
          refine xk_guardT rfl rfl ?_; (first | refine xk_pickT rfl rfl (by decide) ?_ | refine xk_pickF rfl rfl (by decide) ?_)
          (first | refine xk_pickT rfl rfl (by decide) ?_ | refine xk_pickF rfl rfl (by decide) ?_)
          refine XK.nilN ?_
          exact XK.meetB (by repeat (first | exact trivial | refine ⟨rfl, ?_⟩)) (by first | (refine get_iff rfl ?_; omega) | (refine get_iff rfl ?_; simp_all; done) | (refine get_false rfl ?_; first | omega | (simp_all; done)) | (refine get_true rfl ?_; first | omega | (simp_all; done)) | (refine get_bool rfl ?_; simp_all; done) | (refine get_iff rfl ⟨fun hh => ?_, fun hh => ?_⟩ <;> first | omega | (simp_all; done) | (simp_all; omega)) | (exfalso; omega))
  refine XK.if_ rfl (fun hbad => ?_) (fun hbad => ?_)
  ·
    refine XK.seq ?_

    refine XK.region ?_
    refine xk_assign rfl (by decide) ?_
    refine xk_assign rfl (by decide) ?_
    refine XK.nilN ?_
    refine XK.ret ?_
    refine XK.norm ?_
    have hn : numF s = none := if_pos hbad
    exact XK.ret2 rfl rfl rfl fun w1 st => ⟨by rw [hn]; rfl, st.below (by simp)⟩
  ·
    refine XK.skip ?_
    refine XK.norm ?_
    refine XK.seq ?_

    refine XK.region ?_
    refine xk_assign rfl (by decide) ?_
    refine XK.nilN ?_
    refine XK.seq ?_
    refine XK.seq ?_

    refine XK.region ?_
    refine xk_assign rfl (by decide) ?_
    refine XK.nilN ?_
    refine XK.envS [(5, .int .i64 0), (4, .int .u64 0), (3, .bool false), (2, .int .u64 0), (0, .string s)] ?_
    refine XK.block ?_
    refine XK.loop (fun m e R H => ∃ (k n : Nat), k ≤ s.size ∧ n < 10 ^ k ∧ numF s = digL (s.data.toList.drop k) n ∧ m = s.size - k ∧ e = [(5, .int .i64 (k : Int)), (4, .int .u64 (n : Int)), (3, .bool false), (2, .int .u64 0), (0, .string s)] ∧ R = [all w] ∧ H = []) s.size ⟨0, 0, by omega, by omega, if_neg hbad, rfl, rfl, rfl, rfl⟩ fun m e R H hI => ?_
    obtain ⟨k, n, hk, hn, hnum, rfl, rfl, rfl, rfl⟩ := hI
    refine XK.seq ?_
    refine XK.seq ?_

    refine XK.region ?_
    refine xk_move rfl (by decide) ?_
    refine xk_move rfl (by decide) ?_
    refine xk_lenS (by kernel_rfl) rfl (by decide) ?_
    refine xk_lss rfl rfl (by decide) ?_
    refine XK.nilN ?_
    refine XK.if_ rfl (fun hlt => ?_) (fun hlt => ?_)
    have hks : k < s.size := by omega
    rw [drop_bAt hks, digL] at hnum
    have hsz : s.size ≤ 15 := by omega
    have hp1 := Nat.pow_le_pow_right (n := 10) (by omega) (show k ≤ 14 by omega)
    have hpk : 10 ^ (k + 1) = 10 ^ k * 10 := Nat.pow_succ 10 k
    ·
      refine XK.skip ?_
      refine XK.norm ?_
      refine XK.seq ?_
      refine XK.block ?_
      refine XK.seq ?_
      refine XK.cutB 39 ((bAt s k).toNat < 48 ∨ 57 < (bAt s k).toNat) ?_ ?_
      · skip

        refine XK.region ?_
        refine xk_move rfl (by decide) ?_
        refine xk_move rfl (by decide) ?_
        refine xk_byte k (by kernel_rfl) rfl rfl rfl (bAt_get hks) (by decide) ?_
        refine xk_lss rfl rfl (by decide) ?_
        refine xk_move rfl (by decide) ?_
        (first | refine xk_split (t := 34) rfl (fun hg => ?_) (fun hg => ?_) | refine xk_splitB (t := 34) rfl (fun hg => ?_) (fun hg => ?_))
        ·
          refine xk_guardF rfl rfl rfl (by decide) ?_
          refine xk_guardF rfl rfl rfl (by decide) ?_
          refine xk_guardF rfl rfl rfl (by decide) ?_
          refine xk_guardF rfl rfl rfl (by decide) ?_
          (first | refine xk_pickT rfl rfl (by decide) ?_ | refine xk_pickF rfl rfl (by decide) ?_)
          refine XK.nilN ?_
          exact XK.meetB (by repeat (first | exact trivial | refine ⟨rfl, ?_⟩)) (by first | (refine get_iff rfl ?_; omega) | (refine get_iff rfl ?_; simp_all; done) | (refine get_false rfl ?_; first | omega | (simp_all; done)) | (refine get_true rfl ?_; first | omega | (simp_all; done)) | (refine get_bool rfl ?_; simp_all; done) | (refine get_iff rfl ⟨fun hh => ?_, fun hh => ?_⟩ <;> first | omega | (simp_all; done) | (simp_all; omega)) | (exfalso; omega))
        ·
          refine xk_guardT rfl rfl ?_; refine xk_move rfl (by decide) ?_
          refine xk_guardT rfl rfl ?_; refine xk_move rfl (by decide) ?_
          refine xk_guardT rfl rfl ?_; refine xk_byte k (by kernel_rfl) rfl rfl rfl (bAt_get hks) (by decide) ?_
          refine xk_guardT rfl rfl ?_; refine xk_gtr rfl rfl (by decide) ?_
          (first | refine xk_pickT rfl rfl (by decide) ?_ | refine xk_pickF rfl rfl (by decide) ?_)
          refine XK.nilN ?_
          exact XK.meetB (by repeat (first | exact trivial | refine ⟨rfl, ?_⟩)) (by first | (refine get_iff rfl ?_; omega) | (refine get_iff rfl ?_; simp_all; done) | (refine get_false rfl ?_; first | omega | (simp_all; done)) | (refine get_true rfl ?_; first | omega | (simp_all; done)) | (refine get_bool rfl ?_; simp_all; done) | (refine get_iff rfl ⟨fun hh => ?_, fun hh => ?_⟩ <;> first | omega | (simp_all; done) | (simp_all; omega)) | (exfalso; omega))
      refine XK.if_ rfl (fun hb => ?_) (fun hb => ?_)
      ·
        refine XK.seq ?_

        refine XK.region ?_
        refine xk_assign rfl (by decide) ?_
        refine xk_assign rfl (by decide) ?_
        refine XK.nilN ?_
        refine XK.ret ?_
        refine XK.norm ?_
        rw [if_pos hb] at hnum
        exact XK.ret2 rfl rfl rfl fun w1 st => ⟨by rw [hnum]; rfl, st.below (by simp)⟩
      ·
        refine XK.skip ?_
        refine XK.norm ?_
        rw [if_neg hb] at hnum
        have hb8 : (bAt s k).toNat < 256 := (bAt s k).toNat_lt

        refine XK.region ?_
        refine xk_move rfl (by decide) ?_
        refine xk_mul rfl rfl (wrap_u64 (by omega)) (by decide) ?_
        refine xk_move rfl (by decide) ?_
        refine xk_move rfl (by decide) ?_
        refine xk_byte k (by kernel_rfl) rfl rfl rfl (bAt_get hks) (by decide) ?_
        refine xk_sub rfl rfl (wrap_u8 (by omega)) (by decide) ?_
        refine xk_conv (ds := .int .u8) (by kernel_rfl) (by kernel_rfl) rfl (wrap_u64 (by omega)) (by decide) ?_
        refine xk_add rfl rfl (wrap_u64 (by omega)) (by decide) ?_
        refine xk_assign rfl (by decide) ?_
        refine XK.nilN ?_

        refine XK.region ?_
        refine xk_move rfl (by decide) ?_
        refine xk_add rfl rfl (wrap_in (by omega)) (by decide) ?_
        refine xk_assign rfl (by decide) ?_
        refine XK.nilN ?_
        exact XK.env [(5, .int .i64 ((k + 1 : Nat) : Int)), (4, .int .u64 ((n * 10 + ((bAt s k).toNat - 48) : Nat) : Int)), (3, .bool false), (2, .int .u64 0), (0, .string s)] ⟨rfl, by rw [show ((n * 10 + ((bAt s k).toNat - 48) : Nat) : Int) = (n : Int) * 10 + (((bAt s k).toNat : Int) - 48) by omega]; rfl, rfl, rfl, rfl, trivial⟩ (XK.round _ (by omega) ⟨k + 1, _, by omega, by omega, hnum, rfl, rfl, rfl, rfl⟩)
    ·
      refine XK.exit ?_
      refine XK.norm ?_
      refine XK.seq ?_

      refine XK.region ?_
      refine xk_move rfl (by decide) ?_
      refine xk_assign rfl (by decide) ?_
      refine xk_assign rfl (by decide) ?_
      refine XK.nilN ?_
      refine XK.ret ?_
      refine XK.norm ?_
      have hke : s.size ≤ k := by omega
      rw [drop_end hke, digL] at hnum
      exact XK.ret2 rfl rfl rfl fun w1 st => ⟨by rw [hnum]; rfl, st.below (by simp)⟩

theorem must_x (p : Prop) [Decidable p] (w : World) :
    Calls Tryz.prog 76 #[.bool (decide p)] w (OutX (fun v _ _ => p ∧ v = .tuple #[]) (¬ p) w) := by
  refine XK.enter (vs := [.bool (decide p)]) Tryz.func76 rfl Tryz.ntmps76 (by simp) ?_
  refine XK.seq ?_

  refine XK.region ?_
  refine xk_move rfl (by decide) ?_
  (first | refine xk_notD rfl (by decide) ?_ | refine xk_not rfl (by decide) ?_)
  refine XK.nilN ?_
  refine XK.if_ rfl (fun h => ?_) (fun h => ?_)
  ·

    refine XK.region ?_
    refine xk_buildS (zs := []) (L := []) (zeroB_of (by kernel_rfl)) (by kernel_rfl) rfl (by simp [fillL, setN, Value.cells]; rfl) (by decide) ?_
    refine xk_iface (T := 59) (by kernel_rfl) rfl (by decide) ?_
    refine xk_panic rfl ?_
    (repeat (first | refine XK.thenP ?_ | refine XK.inP ?_))
    exact XK.retP fun w1 st => ⟨.inr ⟨h, _, _, rfl⟩, st.below (by simp)⟩
  ·
    refine XK.skip ?_
    refine XK.norm ?_
    exact XK.ret0 (.inr rfl) rfl fun w1 st => ⟨.inl ⟨_, rfl, by simpa using h, rfl⟩, st.below (by simp)⟩

theorem toInt_x (s : ByteArray) (hs : s.size < 4294967296) (w : World) :
    Calls Tryz.prog 77 #[.string s] w (OutX (fun v _ _ => ∃ n, numF s = some n ∧ v = .int .i64 (n : Int)) (numF s = none) w) := by
  refine XK.enter (vs := [.string s]) Tryz.func77 rfl Tryz.ntmps77 (by simp) ?_
  refine XK.seq ?_

  refine XK.region ?_
  refine xk_assign rfl (by decide) ?_
  refine XK.nilN ?_
  refine XK.seq ?_

  refine XK.region ?_
  refine xk_move rfl (by decide) ?_
  refine xk_callR (f := 13) (fi := []) (ca := []) (by kernel_rfl) rfl rfl (by decide) (fun w1 st => number_ok s hs w1) ?_
  dsimp only [numV]
  refine xk_move rfl (by decide) ?_
  refine xk_extract rfl rfl (by decide) ?_
  refine xk_extract rfl rfl (by decide) ?_
  refine xk_assign rfl (by decide) ?_
  refine xk_assign rfl (by decide) ?_
  refine XK.nilN ?_
  refine XK.seq ?_

  refine XK.region ?_
  refine xk_move rfl (by decide) ?_
  rw [show (numF s).isSome = decide ((numF s).isSome = true) by simp]
  refine xk_callXV (f := 76) (fi := []) (ca := []) (by kernel_rfl) rfl rfl (by decide) (fun v => ((numF s).isSome = true) ∧ v = .tuple #[]) (¬ ((numF s).isSome = true)) (fun w1 st => must_x ((numF s).isSome = true) w1) (fun hp T u => by
    (repeat (first | refine XK.thenP ?_ | refine XK.inP ?_))
    exact XK.retP fun w1 st => ⟨.inr ⟨by simpa using hp, T, u, rfl⟩, st.below (by simp)⟩) ?_
  rintro _ ⟨hm, rfl⟩
  obtain ⟨n, hn⟩ := Option.isSome_iff_exists.1 hm
  have hlt := numF_lt hn
  simp only [hn, Option.getD_some]
  refine XK.nilN ?_
  refine XK.seq ?_

  refine XK.region ?_
  refine xk_move rfl (by decide) ?_
  refine xk_conv (ds := .int .u64) (by kernel_rfl) (by kernel_rfl) rfl (wrap_in (by omega)) (by decide) ?_
  refine xk_assign rfl (by decide) ?_
  refine XK.nilN ?_
  refine XK.ret ?_
  refine XK.norm ?_
  exact XK.ret1 rfl rfl fun w1 st => ⟨.inl ⟨_, rfl, n, rfl, rfl⟩, st.below (by simp)⟩

def strCells (ws : List ByteArray) : List Value := ws.map .string
theorem strCells_len (ws : List ByteArray) : (strCells ws).length = ws.length := by simp [strCells]
theorem strCells_at {ws : List ByteArray} {i : Nat} {s : ByteArray} (h : ws[i]? = some s) : (strCells ws)[i]? = some (.string s) := by rw [strCells, List.getElem?_map, h]; rfl
def numsF : List ByteArray → Option (List Int)
  | [] => some []
  | s :: r => match numF s with
    | none => none
    | some n => (numsF r).map ((n : Int) :: ·)
theorem intCells_one (l : List Int) (n : Int) : intCells l ++ [.int .i64 n] = intCells (l ++ [n]) := by simp [intCells]
theorem drop_get {α : Type} {l : List α} {k : Nat} {s : α} (h : l[k]? = some s) : l.drop k = s :: l.drop (k + 1) := by
  obtain ⟨hk, he⟩ := List.getElem?_eq_some_iff.1 h
  rw [List.drop_eq_getElem_cons hk, he]
theorem numsF_len : ∀ (ws : List ByteArray) (l : List Int), numsF ws = some l → l.length = ws.length
  | [], l, h => by simp [numsF] at h; simp [← h]
  | s :: r, l, h => by
    unfold numsF at h
    split at h
    · cases h
    · rw [Option.map_eq_some_iff] at h
      obtain ⟨l1, h1, rfl⟩ := h
      simp [numsF_len r l1 h1]
theorem numsF_bd : ∀ (ws : List ByteArray) (l : List Int), numsF ws = some l → ∀ x ∈ l, 0 ≤ x ∧ x < 1000000000000000
  | [], l, h => by unfold numsF at h; cases h; intro x hx; cases hx
  | s :: r, l, h => by
    unfold numsF at h
    split at h
    · cases h
    · rename_i n hn
      rw [Option.map_eq_some_iff] at h
      obtain ⟨l1, h1, rfl⟩ := h
      have := numF_lt hn
      intro x hx
      rcases List.mem_cons.1 hx with rfl | hx
      · omega
      · exact numsF_bd r l1 h1 x hx
theorem numsF_one (s : ByteArray) : numsF [s] = (numF s).map fun n => [(n : Int)] := by
  unfold numsF
  cases numF s with
  | none => rfl
  | some n => rfl
theorem toInts_x (ws : List ByteArray) (A : Option Addr) (n c : Nat) (w : World) (hS : SlS (all w) 1 A n (strCells ws)) (hn : ws.length = n) (hn63 : n ≤ 1000000) (hsz : ∀ s ∈ ws, s.size < 4294967296) :
    Calls Tryz.prog 79 #[.slice A n c] w (OutX (fun v w w' => ∃ l A' c', numsF ws = some l ∧ v = .slice A' l.length c' ∧ SlS (fresh w w') 1 A' l.length (intCells l)) (numsF ws = none) w) := by
  refine XK.enter (vs := [.slice A n c]) Tryz.func79 rfl Tryz.ntmps79 (by simp) ?_
  refine XK.seq ?_

  refine XK.region ?_
  refine xk_assign rfl (by decide) ?_
  refine XK.nilN ?_
  refine XK.seq ?_

  refine XK.region ?_
  refine xk_assign rfl (by decide) ?_
  refine XK.nilN ?_
  refine XK.seq ?_
  refine XK.seq ?_
  refine XK.nilrow 3 1 ?_

  refine XK.region ?_
  refine xk_move rfl (by decide) ?_
  refine xk_len (el := 9) (by kernel_rfl) rfl (by decide) ?_
  refine xk_move rfl (by decide) ?_
  refine XK.nilN ?_
  refine XK.envS [(8, .int .i64 0), (7, .int .i64 (n : Int)), (6, .slice A n c), (3, .slice none 0 0), (2, .slice none 0 0)] ?_
  refine XK.block ?_
  refine XK.loop (fun m e R H => ∃ (k : Nat) (l : List Int) (A1 : Option Addr) (c1 : Nat), k ≤ n ∧ l.length = k ∧ numsF ws = (numsF (ws.drop k)).map (l ++ ·) ∧ m = n - k ∧ e = [(8, .int .i64 (k : Int)), (7, .int .i64 (n : Int)), (6, .slice A n c), (3, .slice A1 k c1), (2, .slice none 0 0)] ∧ R = [all w] ∧ H = [HP.own 3 1 (.slice A1 k c1) k (intCells l)]) n ⟨0, [], none, 0, by omega, rfl, by simp, rfl, rfl, rfl, rfl⟩ fun m e R H hI => ?_
  obtain ⟨k, l, A1, c1, hk, hlk, hnum, rfl, rfl, rfl, rfl⟩ := hI
  refine XK.seq ?_

  refine XK.region ?_
  refine xk_lss rfl rfl (by decide) ?_
  refine XK.nilN ?_
  refine XK.seq ?_
  refine XK.if_ rfl (fun hlt => ?_) (fun hlt => ?_)
  ·
    refine XK.skip ?_
    refine XK.norm ?_
    refine XK.seq ?_
    refine XK.block ?_
    refine XK.seq ?_
    have hks : k < n := by omega
    obtain ⟨b, off, rfl, hz, hc⟩ := hS.2 (by omega)
    obtain ⟨s, hs⟩ : ∃ s, ws[k]? = some s := ⟨_, List.getElem?_eq_getElem (by omega)⟩
    have hss := hsz s (List.mem_of_getElem? hs)
    have hdr := drop_get hs
    rw [hdr, numsF] at hnum

    refine XK.region ?_
    refine xk_at (k) (off + k) (el := 9) (sz := 1) (by kernel_rfl) (by kernel_rfl) rfl rfl (by omega) (by omega) (by omega) (by decide) ?_
    refine xk_load (by kernel_rfl) rfl (Rd.ro (p := all w) (by simp) hz (hc k _ (strCells_at hs))) (by decide) ?_
    refine xk_assign rfl (by decide) ?_
    refine XK.nilN ?_

    refine XK.region ?_
    refine xk_move rfl (by decide) ?_
    refine xk_move rfl (by decide) ?_
    refine xk_callXV (f := 77) (fi := []) (ca := []) (by kernel_rfl) rfl rfl (by decide) (fun v => ∃ n, numF s = some n ∧ v = .int .i64 (n : Int)) (numF s = none) (fun w1 st => toInt_x s hss w1) (fun hp T u => by
      (repeat (first | refine XK.thenP ?_ | refine XK.inP ?_))
      exact XK.retP fun w1 st => ⟨.inr ⟨by rw [hnum, hp]; rfl, T, u, rfl⟩, st.below (by simp)⟩) ?_
    rintro _ ⟨nn, hn, rfl⟩
    rw [hn] at hnum
    refine xk_slice (el := 3) (sz := 1) (zs := [.int .i64 0]) (by kernel_rfl) (zeroB_of (by kernel_rfl)) (by kernel_rfl) rfl (by decide) (by decide) rfl (by simp [fillL, setN, Value.cells, List.range_succ, List.set]; rfl) (by decide) fun g1 => ?_
    refine xk_appendT 1 1 8 1 (n' := k + 1) (el := 3) (by kernel_rfl) (by kernel_rfl) (by decide) rfl rfl rfl (sl_blk 0 rfl rfl) (by simp [Value.oneCell']) rfl (by omega) (by omega) (by decide) fun A2 c2 => ?_
    dsimp only [List.set]
    rw [intCells_one]
    refine xk_assign rfl (by decide) ?_
    refine XK.nilN ?_

    refine XK.region ?_
    refine xk_add rfl rfl (wrap_in (by omega)) (by decide) ?_
    refine xk_move rfl (by decide) ?_
    refine XK.nilN ?_
    exact XK.weak [1] rfl (by decide) (by simp) (XK.envS [(8, .int .i64 ((k + 1 : Nat) : Int)), (7, .int .i64 (n : Int)), (6, .slice (some ⟨b, off, none⟩) n c), (3, .slice A2 (k + 1) c2), (2, .slice none 0 0)] (XK.round _ (by omega) ⟨k + 1, l ++ [(nn : Int)], A2, c2, by omega, by simp [hlk], by rw [hnum]; cases numsF (ws.drop (k + 1)) <;> simp, rfl, rfl, rfl, rfl⟩))
  ·
    refine XK.exit ?_
    refine XK.norm ?_
    refine XK.seq ?_

    refine XK.region ?_
    refine xk_move rfl (by decide) ?_
    refine xk_assign rfl (by decide) ?_
    refine XK.nilN ?_
    refine XK.ret ?_
    refine XK.norm ?_
    have hkn : k = n := by omega
    have hdn : ws.drop k = [] := List.drop_eq_nil_of_le (by omega)
    rw [hdn] at hnum
    refine XK.still [] [0] [] (by simp) rfl (by decide) (by decide) fun q hq _ hfr => ?_
    exact XK.ret1 rfl rfl fun w1 st => ⟨.inl ⟨_, rfl, l, A1, c1, by rw [hnum]; simp [numsF], by rw [hlk], by
      have h := SlS.own (hq 0 _ (by simp) rfl)
      rw [← hlk] at h
      exact SlS.le h (st.fresh_le (by simp) (hfr (by simp) (by simp)))⟩, st.below (by simp)⟩

def w32F (s : ByteArray) : Option Nat := match numF s with
  | none => none
  | some n => if n ≤ 4294967295 then some n else none
theorem toWord32_x (s : ByteArray) (hs : s.size < 4294967296) (w : World) :
    Calls Tryz.prog 80 #[.string s] w (OutX (fun v _ _ => ∃ n : Nat, w32F s = some n ∧ v = .int .u32 (n : Int)) (w32F s = none) w) := by
  refine XK.enter (vs := [.string s]) Tryz.func80 rfl Tryz.ntmps80 (by simp) ?_
  refine XK.seq ?_

  refine XK.region ?_
  refine xk_assign rfl (by decide) ?_
  refine XK.nilN ?_
  refine XK.seq ?_

  refine XK.region ?_
  refine xk_move rfl (by decide) ?_
  refine xk_callR (f := 13) (fi := []) (ca := []) (by kernel_rfl) rfl rfl (by decide) (fun w1 st => number_ok s hs w1) ?_
  dsimp only [numV]
  refine xk_move rfl (by decide) ?_
  refine xk_extract rfl rfl (by decide) ?_
  refine xk_extract rfl rfl (by decide) ?_
  refine xk_assign rfl (by decide) ?_
  refine xk_assign rfl (by decide) ?_
  refine XK.nilN ?_
  refine XK.seq ?_

  refine XK.region ?_
  refine xk_move rfl (by decide) ?_
  refine xk_move rfl (by decide) ?_
  (first | refine xk_split (t := 11) rfl (fun hg => ?_) (fun hg => ?_) | refine xk_splitB (t := 11) rfl (fun hg => ?_) (fun hg => ?_))
  ·
    obtain ⟨n, hn⟩ := Option.isSome_iff_exists.1 hg
    have hlt := numF_lt hn
    simp only [hn, Option.getD_some]
    refine xk_guardT rfl rfl ?_; refine xk_move rfl (by decide) ?_
    refine xk_guardT rfl rfl ?_; refine xk_leq rfl rfl (by decide) ?_
    (first | refine xk_pickT rfl rfl (by decide) ?_ | refine xk_pickF rfl rfl (by decide) ?_)
    refine xk_callXV (f := 76) (fi := []) (ca := []) (by kernel_rfl) rfl rfl (by decide) (fun v => ((n : Int) ≤ 4294967295) ∧ v = .tuple #[]) (¬ ((n : Int) ≤ 4294967295)) (fun w1 st => must_x ((n : Int) ≤ 4294967295) w1) (fun hp T u => by
      (repeat (first | refine XK.thenP ?_ | refine XK.inP ?_))
      exact XK.retP fun w1 st => ⟨.inr ⟨by rw [w32F, hn]; dsimp only; rw [if_neg (by omega)], T, u, rfl⟩, st.below (by simp)⟩) ?_
    rintro _ ⟨hm, rfl⟩
    refine XK.nilN ?_
    refine XK.seq ?_

    refine XK.region ?_
    refine xk_move rfl (by decide) ?_
    refine xk_conv (ds := .int .u64) (by kernel_rfl) (by kernel_rfl) rfl (wrap_u32 (by omega)) (by decide) ?_
    refine xk_assign rfl (by decide) ?_
    refine XK.nilN ?_
    refine XK.ret ?_
    refine XK.norm ?_
    exact XK.ret1 rfl rfl fun w1 st => ⟨.inl ⟨_, rfl, n, by rw [w32F, hn]; dsimp only; rw [if_pos (by omega)], rfl⟩, st.below (by simp)⟩
  ·
    refine xk_guardF rfl rfl rfl (by decide) ?_
    refine xk_guardF rfl rfl rfl (by decide) ?_
    (first | refine xk_pickT rfl rfl (by decide) ?_ | refine xk_pickF rfl rfl (by decide) ?_)
    refine xk_callXV (f := 76) (fi := []) (ca := []) (by kernel_rfl) rfl rfl (by decide) (fun v => (False) ∧ v = .tuple #[]) (¬ (False)) (fun w1 st => must_x (False) w1) (fun hp T u => by
      (repeat (first | refine XK.thenP ?_ | refine XK.inP ?_))
      exact XK.retP fun w1 st => ⟨.inr ⟨by rw [w32F]; cases hh : numF s with | none => rfl | some n => (rw [hh] at hg; cases hg), T, u, rfl⟩, st.below (by simp)⟩) ?_
    rintro _ ⟨hm, rfl⟩
    exact hm.elim

def keepS : ByteArray := ⟨#[107, 101, 101, 112]⟩
def loseS : ByteArray := ⟨#[108, 111, 115, 101]⟩
def keptF (s : ByteArray) : Option Bool := if s = keepS then some true else if s = loseS then some false else none
theorem toKept_x (s : ByteArray) (w : World) :
    Calls Tryz.prog 78 #[.string s] w (OutX (fun v _ _ => ∃ b : Bool, keptF s = some b ∧ v = .bool b) (keptF s = none) w) := by
  refine XK.enter (vs := [.string s]) Tryz.func78 rfl Tryz.ntmps78 (by simp) ?_
  refine XK.seq ?_

  refine XK.region ?_
  refine xk_assign rfl (by decide) ?_
  refine XK.nilN ?_
  refine XK.seq ?_

  refine XK.region ?_
  refine xk_move rfl (by decide) ?_
  refine xk_eqlStr (by kernel_rfl) rfl rfl (by decide) ?_
  refine xk_move rfl (by decide) ?_
  refine xk_split (t := 5) (p := s = keepS) rfl (fun hg => ?_) (fun hg => ?_)
  ·
    refine xk_guardF rfl rfl rfl (by decide) ?_
    refine xk_guardF rfl rfl rfl (by decide) ?_
    (first | refine xk_pickT rfl rfl (by decide) ?_ | refine xk_pickF rfl rfl (by decide) ?_)
    refine xk_callXV (f := 76) (fi := []) (ca := []) (by kernel_rfl) rfl rfl (by decide) (fun v => (True) ∧ v = .tuple #[]) (¬ (True)) (fun w1 st => must_x (True) w1) (fun hp T u => by
      (repeat (first | refine XK.thenP ?_ | refine XK.inP ?_))
      exact XK.retP fun w1 st => absurd trivial hp) ?_
    rintro _ ⟨hm, rfl⟩
    refine XK.nilN ?_
    refine XK.seq ?_

    refine XK.region ?_
    refine xk_move rfl (by decide) ?_
    refine xk_eqlStr (by kernel_rfl) rfl rfl (by decide) ?_
    refine xk_assign rfl (by decide) ?_
    refine XK.nilN ?_
    refine XK.ret ?_
    refine XK.norm ?_
    exact XK.ret1 rfl rfl fun w1 st => ⟨.inl ⟨_, rfl, true, by rw [keptF, if_pos hg], congrArg Value.bool (decide_eq_true hg)⟩, st.below (by simp)⟩
  ·
    refine xk_guardT rfl rfl ?_; refine xk_move rfl (by decide) ?_
    refine xk_guardT rfl rfl ?_; refine xk_eqlStr (by kernel_rfl) rfl rfl (by decide) ?_
    (first | refine xk_pickT rfl rfl (by decide) ?_ | refine xk_pickF rfl rfl (by decide) ?_)
    refine xk_callXV (f := 76) (fi := []) (ca := []) (by kernel_rfl) rfl rfl (by decide) (fun v => (s = loseS) ∧ v = .tuple #[]) (¬ (s = loseS)) (fun w1 st => must_x (s = loseS) w1) (fun hp T u => by
      (repeat (first | refine XK.thenP ?_ | refine XK.inP ?_))
      exact XK.retP fun w1 st => ⟨.inr ⟨by rw [keptF, if_neg hg, if_neg hp], T, u, rfl⟩, st.below (by simp)⟩) ?_
    rintro _ ⟨hm, rfl⟩
    refine XK.nilN ?_
    refine XK.seq ?_

    refine XK.region ?_
    refine xk_move rfl (by decide) ?_
    refine xk_eqlStr (by kernel_rfl) rfl rfl (by decide) ?_
    refine xk_assign rfl (by decide) ?_
    refine XK.nilN ?_
    refine XK.ret ?_
    refine XK.norm ?_
    exact XK.ret1 rfl rfl fun w1 st => ⟨.inl ⟨_, rfl, false, by rw [keptF, if_neg hg, if_pos hm], congrArg Value.bool (decide_eq_false hg)⟩, st.below (by simp)⟩

end Go.Proofs.YtgopaoidgcgalaaGreatDoor
/- package lines: a clock's words. -/
namespace Go.Proofs.YtgopaoidgcgalaaGreatDoor
set_option linter.all false
open Go.RowKit
def clockN (kd : Nat) : Option (List Int) → Option Clk
  | none => none
  | some l => if kd = 111 then (match l with | [a] => some ⟨111, [], a, 0, 0, 0⟩ | _ => none)
    else if kd = 112 then (match l with | [a, b, c, d] => some ⟨112, [a], 0, b, c, d⟩ | _ => none)
    else if kd = 109 then some ⟨109, l, 0, 0, 0, 0⟩
    else if kd = 100 then (match l with | [a, b] => some ⟨100, [a], 0, 0, b, 0⟩ | _ => none)
    else if kd = 103 then (match l with | [a] => some ⟨103, [a], 0, 0, 0, 0⟩ | _ => none) else none
/-- what the words behind 'clock' say -/
def clockF : List ByteArray → Option Clk
  | [] => none
  | k :: r => if k.size = 1 ∧ 1 ≤ r.length then clockN (bAt k 0).toNat (numsF r) else none
theorem len1 {α : Type} {l : List α} (h : l.length = 1) : ∃ a, l = [a] := by
  match l, h with
  | [a], _ => exact ⟨a, rfl⟩
theorem len2 {α : Type} {l : List α} (h : l.length = 2) : ∃ a b, l = [a, b] := by
  match l, h with
  | [a, b], _ => exact ⟨a, b, rfl⟩
theorem len3 {α : Type} {l : List α} (h : l.length = 3) : ∃ a b c, l = [a, b, c] := by
  match l, h with
  | [a, b, c], _ => exact ⟨a, b, c, rfl⟩
theorem len4 {α : Type} {l : List α} (h : l.length = 4) : ∃ a b c d, l = [a, b, c, d] := by
  match l, h with
  | [a, b, c, d], _ => exact ⟨a, b, c, d, rfl⟩
theorem clockN_o {r : List ByteArray} (h : r.length ≠ 1) : clockN 111 (numsF r) = none := by
  cases hn : numsF r with
  | none => rfl
  | some l =>
    have := numsF_len r l hn
    match l, this with
    | [], _ => rfl
    | [a], h1 => simp at h1; omega
    | a :: b :: l, _ => rfl
theorem clockN_p {r : List ByteArray} (h : r.length ≠ 4) : clockN 112 (numsF r) = none := by
  cases hn : numsF r with
  | none => rfl
  | some l =>
    have := numsF_len r l hn
    match l, this with
    | [], _ => rfl
    | [a], _ => rfl
    | [a, b], _ => rfl
    | [a, b, c], _ => rfl
    | [a, b, c, d], h1 => simp at h1; omega
    | a :: b :: c :: d :: x :: l, _ => rfl
theorem clockN_d {r : List ByteArray} (h : r.length ≠ 2) : clockN 100 (numsF r) = none := by
  cases hn : numsF r with
  | none => rfl
  | some l =>
    have := numsF_len r l hn
    match l, this with
    | [], _ => rfl
    | [a], _ => rfl
    | [a, b], h1 => simp at h1; omega
    | a :: b :: c :: l, _ => rfl
theorem clockN_g {r : List ByteArray} (h : r.length ≠ 1) : clockN 103 (numsF r) = none := by
  cases hn : numsF r with
  | none => rfl
  | some l =>
    have := numsF_len r l hn
    match l, this with
    | [], _ => rfl
    | [a], h1 => simp at h1; omega
    | a :: b :: l, _ => rfl
theorem SlS.dropP {p : Piece} {sz n k : Nat} {A A' : Option Addr} {xs : List Value} (h : SlS p sz A n xs) (hk : k ≤ n) (hA : k < n → ∀ b off, A = some ⟨b, off, none⟩ → A' = some ⟨b, off + k * sz, none⟩) : SlS p sz A' (n - k) (xs.drop (k * sz)) := by
  refine ⟨by rw [List.length_drop, h.1, Nat.sub_mul], fun h0 => ?_⟩
  obtain ⟨b, off, hA2, hz, hc⟩ := h.2 (by omega)
  refine ⟨b, off + k * sz, hA (by omega) b off hA2, hz, fun j u hu => ?_⟩
  rw [List.getElem?_drop] at hu
  rw [Nat.add_assoc]
  exact hc _ u hu
theorem strCells_drop (ws : List ByteArray) (k : Nat) : (strCells ws).drop (k * 1) = strCells (ws.drop k) := by simp [strCells, List.map_drop]
theorem strCells_take (ws : List ByteArray) (k : Nat) : (strCells ws).take (k * 1) = strCells (ws.take k) := by simp [strCells, List.map_take]
theorem HP.blk_sls {q : Piece} {t : TypeId} {g sz n : Nat} {xs : List Value} (h : ∃ F, (HP.blk g t xs).sat F q.w ∧ ∀ b, F b → q.Z b) (hn : xs.length = n * sz) : SlS q sz (some ⟨g, 0, none⟩) n xs := by
  obtain ⟨F, h1, h2⟩ := h
  exact SlS.of_blk (Y := q.Z) (w := q.w) (c := 0) h1 h2 hn

theorem toClock_x (ws : List ByteArray) (A : Option Addr) (n c : Nat) (w : World) (hS : SlS (all w) 1 A n (strCells ws)) (hn : ws.length = n) (hnc : n ≤ c) (hn63 : n ≤ 1000000) (hsz : ∀ s ∈ ws, s.size < 4294967296) :
    Calls Tryz.prog 75 #[.slice A n c] w (OutX (fun v w w' => ∃ (cl : Clk) (A' : Option Addr) (c' : Nat), clockF ws = some cl ∧ v = .agg #[.int .u8 cl.kind, .slice A' cl.src.length c', .int .u64 cl.rate, .int .i64 cl.mul, .int .i64 cl.div, .int .i64 cl.lock] ∧ SlS (fresh w w') 1 A' cl.src.length (intCells cl.src)) (clockF ws = none) w) := by
  refine XK.enter (vs := [.slice A n c]) Tryz.func75 rfl Tryz.ntmps75 (by simp) ?_
  refine XK.seq ?_

  refine XK.region ?_
  refine xk_alloc (cs := [.int .u8 0, .slice none 0 0, .int .u64 0, .int .i64 0, .int .i64 0, .int .i64 0]) (zeroB_of (by kernel_rfl)) (by decide) fun g1 => ?_
  refine XK.nilN ?_
  refine XK.cut (fun e R H => ∃ (k0 : ByteArray) (r : List ByteArray), ws = k0 :: r ∧ k0.size = 1 ∧ 1 ≤ r.length ∧ e = [(2, .pointer (some ⟨g1, 0, none⟩)), (0, .slice A n c)] ∧ R = [all w] ∧ H = [HP.blk g1 55 [.int .u8 0, .slice none 0 0, .int .u64 0, .int .i64 0, .int .i64 0, .int .i64 0]]) ?_ ?_
  ·

    refine XK.region ?_
    refine xk_move rfl (by decide) ?_
    refine xk_len (el := 9) (by kernel_rfl) rfl (by decide) ?_
    refine xk_geq rfl rfl (by decide) ?_
    refine xk_move rfl (by decide) ?_
    (first | refine xk_split (t := 11) rfl (fun hg => ?_) (fun hg => ?_) | refine xk_splitB (t := 11) rfl (fun hg => ?_) (fun hg => ?_))
    ·
      obtain ⟨b0, off, rfl, hz, hc⟩ := hS.2 (by omega)
      obtain ⟨k0, r, rfl⟩ : ∃ k0 r, ws = k0 :: r := by
        cases ws with
        | nil => simp at hn; omega
        | cons k0 r => exact ⟨k0, r, rfl⟩
      have hrl : 1 ≤ r.length := by simp at hn; omega
      refine xk_guardT rfl rfl ?_; refine xk_move rfl (by decide) ?_
      refine xk_guardT rfl rfl ?_; refine xk_at 0 (off + 0) (el := 9) (sz := 1) (by kernel_rfl) (by kernel_rfl) rfl rfl (by rfl) (by omega) (by omega) (by decide) ?_
      refine xk_guardT rfl rfl ?_; refine xk_load (by kernel_rfl) rfl (Rd.ro (p := all w) (by simp) hz (hc 0 _ rfl)) (by decide) ?_
      refine xk_guardT rfl rfl ?_; refine xk_lenS (by kernel_rfl) rfl (by decide) ?_
      refine xk_guardT rfl rfl ?_; refine xk_eql rfl rfl (by decide) ?_
      (first | refine xk_pickT rfl rfl (by decide) ?_ | refine xk_pickF rfl rfl (by decide) ?_)
      refine xk_callXV (f := 76) (fi := []) (ca := []) (by kernel_rfl) rfl rfl (by decide) (fun v => ((k0.size : Int) = 1) ∧ v = .tuple #[]) (¬ ((k0.size : Int) = 1)) (fun w1 st => must_x ((k0.size : Int) = 1) w1) (fun hp T u => by
        (repeat (first | refine XK.thenP ?_ | refine XK.inP ?_))
        exact XK.retP fun w1 st => ⟨.inr ⟨if_neg (by omega), T, u, rfl⟩, st.below (by simp)⟩) ?_
      rintro _ ⟨hm, rfl⟩
      refine XK.nilN ?_
      exact XK.envS [(2, .pointer (some ⟨g1, 0, none⟩)), (0, .slice (some ⟨b0, off, none⟩) n c)] (XK.meet ⟨k0, r, rfl, by omega, hrl, rfl, rfl, rfl⟩)
    ·
      refine xk_guardF rfl rfl rfl (by decide) ?_
      refine xk_guardF rfl rfl rfl (by decide) ?_
      refine xk_guardF rfl rfl rfl (by decide) ?_
      refine xk_guardF rfl rfl rfl (by decide) ?_
      refine xk_guardF rfl rfl rfl (by decide) ?_
      (first | refine xk_pickT rfl rfl (by decide) ?_ | refine xk_pickF rfl rfl (by decide) ?_)
      refine xk_callXV (f := 76) (fi := []) (ca := []) (by kernel_rfl) rfl rfl (by decide) (fun v => (False) ∧ v = .tuple #[]) (¬ (False)) (fun w1 st => must_x (False) w1) (fun hp T u => by
        (repeat (first | refine XK.thenP ?_ | refine XK.inP ?_))
        exact XK.retP fun w1 st => ⟨.inr ⟨(by
          have h2 : ¬ 2 ≤ ws.length := by omega
          match ws, h2 with
          | [], _ => rfl
          | [k0], _ => exact if_neg (by simp)
          | k0 :: k1 :: r, h2 => simp at h2), T, u, rfl⟩, st.below (by simp)⟩) ?_
      rintro _ ⟨hm, rfl⟩
      exact hm.elim

  rintro _ _ _ ⟨k0, r, rfl, hk0, hrl, rfl, rfl, rfl⟩
  obtain ⟨b0, off, rfl, hz, hc⟩ := hS.2 (by simp at hn; omega)
  have hnr : n = r.length + 1 := by simp at hn; omega
  have hcF : clockF (k0 :: r) = clockN (bAt k0 0).toNat (numsF r) := if_pos ⟨hk0, hrl⟩
  have hsr : ∀ s ∈ r, s.size < 4294967296 := fun s hs => hsz s (by simp [hs])
  refine XK.seq ?_

  refine XK.region ?_
  refine xk_move rfl (by decide) ?_
  refine xk_at 0 (off + 0) (el := 9) (sz := 1) (by kernel_rfl) (by kernel_rfl) rfl rfl (by rfl) (by omega) (by omega) (by decide) ?_
  refine xk_load (by kernel_rfl) rfl (Rd.ro (p := all w) (by simp) hz (hc 0 _ rfl)) (by decide) ?_
  refine xk_byte 0 (by kernel_rfl) rfl rfl rfl (bAt_get (by omega)) (by decide) ?_
  refine xk_buildS (zs := [.int .u8 0, .slice none 0 0, .int .u64 0, .int .i64 0, .int .i64 0, .int .i64 0]) (L := [(0, 1), (1, 1), (2, 1), (3, 1), (4, 1), (5, 1)]) (zeroB_of (by kernel_rfl)) (by kernel_rfl) rfl (by simp [fillL, setN, Value.cells]; rfl) (by decide) ?_
  refine xk_alloc (cs := [.int .u8 0, .slice none 0 0, .int .u64 0, .int .i64 0, .int .i64 0, .int .i64 0]) (zeroB_of (by kernel_rfl)) (by decide) fun g2 => ?_
  (first | (refine xk_storeN 0 rfl rfl rfl (by kernel_rfl) (by simp [Value.cells, Value.oneCell']) (by simp [Value.cells]) ?_) | (refine xk_storeN 1 rfl rfl rfl (by kernel_rfl) (by simp [Value.cells, Value.oneCell']) (by simp [Value.cells]) ?_) | (refine xk_storeN 2 rfl rfl rfl (by kernel_rfl) (by simp [Value.cells, Value.oneCell']) (by simp [Value.cells]) ?_) | (refine xk_storeN 3 rfl rfl rfl (by kernel_rfl) (by simp [Value.cells, Value.oneCell']) (by simp [Value.cells]) ?_) | (refine xk_storeN 4 rfl rfl rfl (by kernel_rfl) (by simp [Value.cells, Value.oneCell']) (by simp [Value.cells]) ?_) | (refine xk_storeN 5 rfl rfl rfl (by kernel_rfl) (by simp [Value.cells, Value.oneCell']) (by simp [Value.cells]) ?_) | (refine xk_storeN 6 rfl rfl rfl (by kernel_rfl) (by simp [Value.cells, Value.oneCell']) (by simp [Value.cells]) ?_) | (refine xk_storeN 7 rfl rfl rfl (by kernel_rfl) (by simp [Value.cells, Value.oneCell']) (by simp [Value.cells]) ?_) | (refine xk_storeN 8 rfl rfl rfl (by kernel_rfl) (by simp [Value.cells, Value.oneCell']) (by simp [Value.cells]) ?_)); simp only [putN, Value.cells, List.set, List.take, List.drop, List.nil_append, List.append_nil, List.length_cons, List.length_nil, List.cons_append, Nat.reduceAdd]
  refine XK.nilN ?_
  refine XK.seq ?_

  refine XK.region ?_
  refine xk_move rfl (by decide) ?_
  refine xk_sliceL 1 (el := 9) (sz := 1) (by kernel_rfl) (by kernel_rfl) rfl rfl rfl (by omega) hnc (by decide) fun A2 hA2 => ?_
  have hS2 : SlS (all w) 1 A2 (n - 1) (strCells r) := by
    have h := SlS.dropP (k := 1) hS (by omega) hA2
    rw [strCells_drop] at h
    exact h
  rw [show n - 1 = r.length by omega] at hS2 ⊢
  generalize hkd : bAt k0 0 = kd at hcF ⊢
  refine xk_assign rfl (by decide) ?_
  refine XK.nilN ?_
  refine XK.envS [(3, .pointer (some ⟨g2, 0, none⟩)), (2, .pointer (some ⟨g1, 0, none⟩)), (0, .slice A2 r.length (c - 1))] ?_
  refine XK.cut (fun e R H => ∃ (cl : Clk) (Af : Option Addr) (cf : Nat) (q : Piece), clockF (k0 :: r) = some cl ∧ Fresh w q ∧ SlS q 1 Af cl.src.length (intCells cl.src) ∧ e = [(3, .pointer (some ⟨g2, 0, none⟩)), (2, .pointer (some ⟨g1, 0, none⟩))] ∧ R = [q, all w] ∧ H = [HP.blk g2 55 [.int .u8 cl.kind, .slice Af cl.src.length cf, .int .u64 cl.rate, .int .i64 cl.mul, .int .i64 cl.div, .int .i64 cl.lock], HP.blk g1 55 [.int .u8 0, .slice none 0 0, .int .u64 0, .int .i64 0, .int .i64 0, .int .i64 0]]) ?_ ?_
  ·
    refine XK.seq ?_

    refine XK.region ?_
    refine xk_field (off := 0) (by kernel_rfl) rfl (by decide) ?_
    refine xk_ld rfl ?_
    refine XK.nilN ?_
    refine XK.block ?_
    refine XK.seq ?_

    refine XK.region ?_
    refine xk_eql rfl rfl (by decide) ?_
    refine xk_assign rfl (by decide) ?_
    refine XK.nilN ?_
    refine XK.if_ rfl (fun ho => ?_) (fun ho => ?_)
    ·
      have hk8 : kd.toNat = 111 := by omega
      rw [hk8] at hcF ⊢
      refine XK.seq ?_

      refine XK.region ?_
      refine xk_move rfl (by decide) ?_
      refine xk_len (el := 9) (by kernel_rfl) rfl (by decide) ?_
      refine xk_eql rfl rfl (by decide) ?_
      refine xk_callXV (f := 76) (fi := []) (ca := []) (by kernel_rfl) rfl rfl (by decide) (fun v => ((r.length : Int) = 1) ∧ v = .tuple #[]) (¬ ((r.length : Int) = 1)) (fun w1 st => must_x ((r.length : Int) = 1) w1) (fun hp T u => by
        (repeat (first | refine XK.thenP ?_ | refine XK.inP ?_))
        exact XK.retP fun w1 st => ⟨.inr ⟨hcF.trans (clockN_o (by omega)), T, u, rfl⟩, st.below (by simp)⟩) ?_
      rintro _ ⟨hm, rfl⟩
      obtain ⟨s1, rfl⟩ := len1 (show r.length = 1 by omega)
      obtain ⟨b2, off2, rfl, hz2, hc2⟩ := hS2.2 (by simp)
      refine XK.nilN ?_
      refine XK.seq ?_

      refine XK.region ?_
      refine xk_move rfl (by decide) ?_
      refine xk_at 0 (off2 + 0) (el := 9) (sz := 1) (by kernel_rfl) (by kernel_rfl) rfl rfl (by rfl) (by omega) (by omega) (by decide) ?_
      refine xk_load (by kernel_rfl) rfl (Rd.ro (p := all w) (by simp) hz2 (hc2 0 _ rfl)) (by decide) ?_
      refine xk_callR (f := 13) (fi := []) (ca := []) (by kernel_rfl) rfl rfl (by decide) (fun w1 st => number_ok s1 (hsr s1 (by simp)) w1) ?_
      dsimp only [numV]
      refine xk_move rfl (by decide) ?_
      refine xk_extract rfl rfl (by decide) ?_
      refine xk_extract rfl rfl (by decide) ?_
      refine xk_assign rfl (by decide) ?_
      refine xk_assign rfl (by decide) ?_
      refine XK.nilN ?_
      refine XK.seq ?_

      refine XK.region ?_
      refine xk_move rfl (by decide) ?_
      rw [show (numF s1).isSome = decide ((numF s1).isSome = true) by simp]
      refine xk_callXV (f := 76) (fi := []) (ca := []) (by kernel_rfl) rfl rfl (by decide) (fun v => ((numF s1).isSome = true) ∧ v = .tuple #[]) (¬ ((numF s1).isSome = true)) (fun w1 st => must_x ((numF s1).isSome = true) w1) (fun hp T u => by
        (repeat (first | refine XK.thenP ?_ | refine XK.inP ?_))
        exact XK.retP fun w1 st => ⟨.inr ⟨(hcF.trans (by rw [numsF_one]; cases hh : numF s1 with | none => rfl | some n => (rw [hh] at hp; exact absurd rfl hp))), T, u, rfl⟩, st.below (by simp)⟩) ?_
      rintro _ ⟨hm, rfl⟩
      obtain ⟨nn, hnn⟩ := Option.isSome_iff_exists.1 hm
      rw [numsF_one, hnn] at hcF
      simp only [hnn, Option.getD_some]
      refine XK.nilN ?_

      refine XK.region ?_
      refine xk_move rfl (by decide) ?_
      refine xk_field (off := 2) (by kernel_rfl) rfl (by decide) ?_
      refine xk_st rfl rfl ?_; dsimp only [List.set]
      refine XK.nilN ?_
      refine XK.still [] [] [0, 1] (by simp) rfl (by decide) (by decide) fun q _ _ hfr => ?_
      exact XK.envS [(3, .pointer (some ⟨g2, 0, none⟩)), (2, .pointer (some ⟨g1, 0, none⟩))] (XK.meet ⟨⟨111, [], nn, 0, 0, 0⟩, none, 0, q, hcF, hfr (by simp) (by simp), SlS.nil _ _, rfl, rfl, rfl⟩)
    ·
      refine XK.seq ?_

      refine XK.region ?_
      refine xk_eql rfl rfl (by decide) ?_
      refine xk_assign rfl (by decide) ?_
      refine XK.nilN ?_
      refine XK.if_ rfl (fun hp_ => ?_) (fun hp_ => ?_)
      ·
        have hk8 : kd.toNat = 112 := by omega
        rw [hk8] at hcF ⊢
        refine XK.seq ?_

        refine XK.region ?_
        refine xk_move rfl (by decide) ?_
        refine xk_len (el := 9) (by kernel_rfl) rfl (by decide) ?_
        refine xk_eql rfl rfl (by decide) ?_
        refine xk_callXV (f := 76) (fi := []) (ca := []) (by kernel_rfl) rfl rfl (by decide) (fun v => ((r.length : Int) = 4) ∧ v = .tuple #[]) (¬ ((r.length : Int) = 4)) (fun w1 st => must_x ((r.length : Int) = 4) w1) (fun hp T u => by
          (repeat (first | refine XK.thenP ?_ | refine XK.inP ?_))
          exact XK.retP fun w1 st => ⟨.inr ⟨hcF.trans (clockN_p (by omega)), T, u, rfl⟩, st.below (by simp)⟩) ?_
        rintro _ ⟨hm, rfl⟩
        refine XK.nilN ?_
        refine XK.seq ?_

        refine XK.region ?_
        refine xk_move rfl (by decide) ?_
        refine xk_callX [] (f := 79) (fi := []) (ca := []) (by kernel_rfl) rfl rfl (by decide) (by simp) (fun v w w' => ∃ l A' c', numsF r = some l ∧ v = .slice A' l.length c' ∧ SlS (fresh w w') 1 A' l.length (intCells l)) (numsF r = none) (fun w1 st => toInts_x r A2 r.length (c - 1) w1 (hS2.le (all_le (st.started (by simp)))) rfl (by omega) hsr) (fun hp T u => by
          (repeat (first | refine XK.thenP ?_ | refine XK.inP ?_))
          exact XK.retP fun w1 st => ⟨.inr ⟨hcF.trans (by rw [hp]; rfl), T, u, rfl⟩, st.below (by simp)⟩) ?_
        rintro _ w1 q1 ⟨l, A3, c3, hl, rfl, hS3⟩ hq1 _ hF1
        have hS3 := hS3.le hq1
        have hF1 := hF1 (by simp)
        have hll := numsF_len r l hl
        rw [hl] at hcF
        obtain ⟨a0, a1, a2, a3, rfl⟩ := len4 (show l.length = 4 by omega)
        obtain ⟨b3, off3, rfl, hz3, hc3⟩ := hS3.2 (by simp)
        refine xk_assign rfl (by decide) ?_
        refine XK.nilN ?_

        refine XK.draw1 [q1, all w] [HP.blk g1 55 [.int .u8 0, .slice none 0 0, .int .u64 0, .int .i64 0, .int .i64 0, .int .i64 0]] 19 (by kernel_rfl) (by kernel_rfl) ?_
        refine XA.dA 0 rfl rfl rfl (does_move rfl) ?_
        refine XA.dA 1 rfl rfl rfl (does_at 0 (off3 + 0) (el := 3) (sz := 1) (by kernel_rfl) (by kernel_rfl) rfl rfl rfl (by simp) (by omega)) ?_
        refine XA.dA 2 rfl rfl rfl (does_load (by kernel_rfl) rfl (Rd.ro (p := q1) (by simp) hz3 (hc3 0 _ rfl))) ?_
        refine XA.dA 4 rfl rfl rfl (does_move rfl) ?_
        refine XA.dA 5 rfl rfl rfl (does_at 1 (off3 + 1) (el := 3) (sz := 1) (by kernel_rfl) (by kernel_rfl) rfl rfl rfl (by simp) (by omega)) ?_
        refine XA.dA 6 rfl rfl rfl (does_load (by kernel_rfl) rfl (Rd.ro (p := q1) (by simp) hz3 (hc3 1 _ rfl))) ?_
        refine XA.dA 7 rfl rfl rfl (does_move rfl) ?_
        refine XA.dA 8 rfl rfl rfl (does_at 2 (off3 + 2) (el := 3) (sz := 1) (by kernel_rfl) (by kernel_rfl) rfl rfl rfl (by simp) (by omega)) ?_
        refine XA.dA 9 rfl rfl rfl (does_load (by kernel_rfl) rfl (Rd.ro (p := q1) (by simp) hz3 (hc3 2 _ rfl))) ?_
        refine XA.dA 10 rfl rfl rfl (does_move rfl) ?_
        refine XA.dA 11 rfl rfl rfl (does_at 3 (off3 + 3) (el := 3) (sz := 1) (by kernel_rfl) (by kernel_rfl) rfl rfl rfl (by simp) (by omega)) ?_
        refine XA.dA 12 rfl rfl rfl (does_load (by kernel_rfl) rfl (Rd.ro (p := q1) (by simp) hz3 (hc3 3 _ rfl))) ?_
        refine XA.next 3 rfl (by kernel_rfl) ?_
        refine xk_slice (el := 3) (sz := 1) (zs := [.int .i64 0]) (by kernel_rfl) (zeroB_of (by kernel_rfl)) (by kernel_rfl) rfl (by decide) (by decide) rfl (by simp [fillL, setN, Value.cells, List.range_succ, List.set]; rfl) (by decide) fun g3 => ?_
        refine XA.bk ?_
        refine XA.dA 13 rfl rfl rfl (does_field (off := 1) (by kernel_rfl) rfl) ?_
        refine XA.next 14 rfl (by kernel_rfl) ?_
        refine xk_st rfl rfl ?_; dsimp only [List.set]
        refine XA.bk ?_
        refine XA.dA 15 rfl rfl rfl (does_field (off := 3) (by kernel_rfl) rfl) ?_
        refine XA.next 16 rfl (by kernel_rfl) ?_
        refine xk_st rfl rfl ?_; dsimp only [List.set]
        refine XA.bk ?_
        refine XA.dA 17 rfl rfl rfl (does_field (off := 4) (by kernel_rfl) rfl) ?_
        refine XA.next 18 rfl (by kernel_rfl) ?_
        refine xk_st rfl rfl ?_; dsimp only [List.set]
        refine XA.bk ?_
        refine XA.next 19 rfl (by kernel_rfl) ?_
        refine xk_field (off := 5) (by kernel_rfl) rfl (by decide) ?_
        refine XA.bt ?_
        refine XA.next 20 rfl (by kernel_rfl) ?_
        refine xk_st rfl rfl ?_; dsimp only [List.set]
        refine XA.bt ?_
        refine XA.done (by kernel_rfl) ?_
        refine XK.norm ?_
        refine XK.still [] [0] [1, 2] (by simp) rfl (by decide) (by decide) fun q hq _ hfr => ?_
        exact XK.weakR (R' := [q, all w]) (by simp) (XK.envS [(3, .pointer (some ⟨g2, 0, none⟩)), (2, .pointer (some ⟨g1, 0, none⟩))] (XK.meet ⟨⟨112, [a0], 0, a1, a2, a3⟩, _, 1, q, hcF, hfr (by simp) (by simp), HP.blk_sls (hq 0 _ (by simp) rfl) rfl, rfl, rfl, rfl⟩))
      ·
        refine XK.seq ?_

        refine XK.region ?_
        refine xk_eql rfl rfl (by decide) ?_
        refine xk_assign rfl (by decide) ?_
        refine XK.nilN ?_
        refine XK.if_ rfl (fun hm_ => ?_) (fun hm_ => ?_)
        ·
          have hk8 : kd.toNat = 109 := by omega
          rw [hk8] at hcF ⊢

          refine XK.region ?_
          refine xk_move rfl (by decide) ?_
          refine xk_callX [] (f := 79) (fi := []) (ca := []) (by kernel_rfl) rfl rfl (by decide) (by simp) (fun v w w' => ∃ l A' c', numsF r = some l ∧ v = .slice A' l.length c' ∧ SlS (fresh w w') 1 A' l.length (intCells l)) (numsF r = none) (fun w1 st => toInts_x r A2 r.length (c - 1) w1 (hS2.le (all_le (st.started (by simp)))) rfl (by omega) hsr) (fun hp T u => by
            (repeat (first | refine XK.thenP ?_ | refine XK.inP ?_))
            exact XK.retP fun w1 st => ⟨.inr ⟨hcF.trans (by rw [hp]; rfl), T, u, rfl⟩, st.below (by simp)⟩) ?_
          rintro _ w1 q1 ⟨l, A3, c3, hl, rfl, hS3⟩ hq1 _ hF1
          have hS3 := hS3.le hq1
          have hF1 := hF1 (by simp)
          have hll := numsF_len r l hl
          rw [hl] at hcF
          refine xk_field (off := 1) (by kernel_rfl) rfl (by decide) ?_
          refine xk_st rfl rfl ?_; dsimp only [List.set]
          refine XK.nilN ?_
          exact XK.envS [(3, .pointer (some ⟨g2, 0, none⟩)), (2, .pointer (some ⟨g1, 0, none⟩))] (XK.meet ⟨⟨109, l, 0, 0, 0, 0⟩, A3, c3, q1, hcF, hF1, hS3, rfl, rfl, rfl⟩)
        ·
          refine XK.seq ?_

          refine XK.region ?_
          refine xk_eql rfl rfl (by decide) ?_
          refine xk_assign rfl (by decide) ?_
          refine XK.nilN ?_
          refine XK.if_ rfl (fun hd_ => ?_) (fun hd_ => ?_)
          ·
            have hk8 : kd.toNat = 100 := by omega
            rw [hk8] at hcF ⊢
            refine XK.seq ?_

            refine XK.region ?_
            refine xk_move rfl (by decide) ?_
            refine xk_len (el := 9) (by kernel_rfl) rfl (by decide) ?_
            refine xk_eql rfl rfl (by decide) ?_
            refine xk_callXV (f := 76) (fi := []) (ca := []) (by kernel_rfl) rfl rfl (by decide) (fun v => ((r.length : Int) = 2) ∧ v = .tuple #[]) (¬ ((r.length : Int) = 2)) (fun w1 st => must_x ((r.length : Int) = 2) w1) (fun hp T u => by
              (repeat (first | refine XK.thenP ?_ | refine XK.inP ?_))
              exact XK.retP fun w1 st => ⟨.inr ⟨hcF.trans (clockN_d (by omega)), T, u, rfl⟩, st.below (by simp)⟩) ?_
            rintro _ ⟨hm, rfl⟩
            refine XK.nilN ?_
            refine XK.seq ?_

            refine XK.region ?_
            refine xk_move rfl (by decide) ?_
            refine xk_callX [] (f := 79) (fi := []) (ca := []) (by kernel_rfl) rfl rfl (by decide) (by simp) (fun v w w' => ∃ l A' c', numsF r = some l ∧ v = .slice A' l.length c' ∧ SlS (fresh w w') 1 A' l.length (intCells l)) (numsF r = none) (fun w1 st => toInts_x r A2 r.length (c - 1) w1 (hS2.le (all_le (st.started (by simp)))) rfl (by omega) hsr) (fun hp T u => by
              (repeat (first | refine XK.thenP ?_ | refine XK.inP ?_))
              exact XK.retP fun w1 st => ⟨.inr ⟨hcF.trans (by rw [hp]; rfl), T, u, rfl⟩, st.below (by simp)⟩) ?_
            rintro _ w1 q1 ⟨l, A3, c3, hl, rfl, hS3⟩ hq1 _ hF1
            have hS3 := hS3.le hq1
            have hF1 := hF1 (by simp)
            have hll := numsF_len r l hl
            rw [hl] at hcF
            obtain ⟨a0, a1, rfl⟩ := len2 (show l.length = 2 by omega)
            obtain ⟨b3, off3, rfl, hz3, hc3⟩ := hS3.2 (by simp)
            refine xk_assign rfl (by decide) ?_
            refine XK.nilN ?_

            refine XK.draw1 [q1, all w] [HP.blk g1 55 [.int .u8 0, .slice none 0 0, .int .u64 0, .int .i64 0, .int .i64 0, .int .i64 0]] 9 (by kernel_rfl) (by kernel_rfl) ?_
            refine XA.dA 0 rfl rfl rfl (does_move rfl) ?_
            refine XA.dA 1 rfl rfl rfl (does_at 0 (off3 + 0) (el := 3) (sz := 1) (by kernel_rfl) (by kernel_rfl) rfl rfl rfl (by simp) (by omega)) ?_
            refine XA.dA 2 rfl rfl rfl (does_load (by kernel_rfl) rfl (Rd.ro (p := q1) (by simp) hz3 (hc3 0 _ rfl))) ?_
            refine XA.dA 4 rfl rfl rfl (does_move rfl) ?_
            refine XA.dA 5 rfl rfl rfl (does_at 1 (off3 + 1) (el := 3) (sz := 1) (by kernel_rfl) (by kernel_rfl) rfl rfl rfl (by simp) (by omega)) ?_
            refine XA.dA 6 rfl rfl rfl (does_load (by kernel_rfl) rfl (Rd.ro (p := q1) (by simp) hz3 (hc3 1 _ rfl))) ?_
            refine XA.next 3 rfl (by kernel_rfl) ?_
            refine xk_slice (el := 3) (sz := 1) (zs := [.int .i64 0]) (by kernel_rfl) (zeroB_of (by kernel_rfl)) (by kernel_rfl) rfl (by decide) (by decide) rfl (by simp [fillL, setN, Value.cells, List.range_succ, List.set]; rfl) (by decide) fun g4 => ?_
            refine XA.bk ?_
            refine XA.dA 7 rfl rfl rfl (does_field (off := 1) (by kernel_rfl) rfl) ?_
            refine XA.next 8 rfl (by kernel_rfl) ?_
            refine xk_st rfl rfl ?_; dsimp only [List.set]
            refine XA.bk ?_
            refine XA.next 9 rfl (by kernel_rfl) ?_
            refine xk_field (off := 4) (by kernel_rfl) rfl (by decide) ?_
            refine XA.bt ?_
            refine XA.next 10 rfl (by kernel_rfl) ?_
            refine xk_st rfl rfl ?_; dsimp only [List.set]
            refine XA.bt ?_
            refine XA.done (by kernel_rfl) ?_
            refine XK.norm ?_
            refine XK.still [] [0] [1, 2] (by simp) rfl (by decide) (by decide) fun q hq _ hfr => ?_
            exact XK.weakR (R' := [q, all w]) (by simp) (XK.envS [(3, .pointer (some ⟨g2, 0, none⟩)), (2, .pointer (some ⟨g1, 0, none⟩))] (XK.meet ⟨⟨100, [a0], 0, 0, a1, 0⟩, _, 1, q, hcF, hfr (by simp) (by simp), HP.blk_sls (hq 0 _ (by simp) rfl) rfl, rfl, rfl, rfl⟩))
          ·
            refine XK.seq ?_

            refine XK.region ?_
            refine xk_eql rfl rfl (by decide) ?_
            refine xk_assign rfl (by decide) ?_
            refine XK.nilN ?_
            refine XK.if_ rfl (fun hg_ => ?_) (fun hg_ => ?_)
            ·
              have hk8 : kd.toNat = 103 := by omega
              rw [hk8] at hcF ⊢
              refine XK.seq ?_

              refine XK.region ?_
              refine xk_move rfl (by decide) ?_
              refine xk_len (el := 9) (by kernel_rfl) rfl (by decide) ?_
              refine xk_eql rfl rfl (by decide) ?_
              refine xk_callXV (f := 76) (fi := []) (ca := []) (by kernel_rfl) rfl rfl (by decide) (fun v => ((r.length : Int) = 1) ∧ v = .tuple #[]) (¬ ((r.length : Int) = 1)) (fun w1 st => must_x ((r.length : Int) = 1) w1) (fun hp T u => by
                (repeat (first | refine XK.thenP ?_ | refine XK.inP ?_))
                exact XK.retP fun w1 st => ⟨.inr ⟨hcF.trans (clockN_g (by omega)), T, u, rfl⟩, st.below (by simp)⟩) ?_
              rintro _ ⟨hm, rfl⟩
              refine XK.nilN ?_

              refine XK.region ?_
              refine xk_move rfl (by decide) ?_
              refine xk_callX [] (f := 79) (fi := []) (ca := []) (by kernel_rfl) rfl rfl (by decide) (by simp) (fun v w w' => ∃ l A' c', numsF r = some l ∧ v = .slice A' l.length c' ∧ SlS (fresh w w') 1 A' l.length (intCells l)) (numsF r = none) (fun w1 st => toInts_x r A2 r.length (c - 1) w1 (hS2.le (all_le (st.started (by simp)))) rfl (by omega) hsr) (fun hp T u => by
                (repeat (first | refine XK.thenP ?_ | refine XK.inP ?_))
                exact XK.retP fun w1 st => ⟨.inr ⟨hcF.trans (by rw [hp]; rfl), T, u, rfl⟩, st.below (by simp)⟩) ?_
              rintro _ w1 q1 ⟨l, A3, c3, hl, rfl, hS3⟩ hq1 _ hF1
              have hS3 := hS3.le hq1
              have hF1 := hF1 (by simp)
              have hll := numsF_len r l hl
              rw [hl] at hcF
              obtain ⟨a0, rfl⟩ := len1 (show l.length = 1 by omega)
              refine xk_field (off := 1) (by kernel_rfl) rfl (by decide) ?_
              refine xk_st rfl rfl ?_; dsimp only [List.set]
              refine XK.nilN ?_
              exact XK.envS [(3, .pointer (some ⟨g2, 0, none⟩)), (2, .pointer (some ⟨g1, 0, none⟩))] (XK.meet ⟨⟨103, [a0], 0, 0, 0, 0⟩, A3, c3, q1, hcF, hF1, hS3, rfl, rfl, rfl⟩)
            ·

              refine XK.region ?_
              refine xk_buildS (zs := []) (L := []) (zeroB_of (by kernel_rfl)) (by kernel_rfl) rfl (by simp [fillL, setN, Value.cells]; rfl) (by decide) ?_
              refine xk_iface (T := 59) (by kernel_rfl) rfl (by decide) ?_
              refine xk_panic rfl ?_
              (repeat (first | refine XK.thenP ?_ | refine XK.inP ?_))
              exact XK.retP fun w1 st => ⟨.inr ⟨hcF.trans (by unfold clockN; cases numsF r <;> simp only [] <;> simp (disch := omega) only [if_neg]), _, _, rfl⟩, st.below (by simp)⟩
  rintro _ _ _ ⟨cl, Af, cf, q, hcl, hFq, hSq, rfl, rfl, rfl⟩
  refine XK.seq ?_

  refine XK.region ?_
  refine xk_ldN 6 rfl ?_
  (first | (refine xk_storeN 0 rfl rfl rfl (by kernel_rfl) (by simp [Value.cells, Value.oneCell']) (by simp [Value.cells]) ?_) | (refine xk_storeN 1 rfl rfl rfl (by kernel_rfl) (by simp [Value.cells, Value.oneCell']) (by simp [Value.cells]) ?_) | (refine xk_storeN 2 rfl rfl rfl (by kernel_rfl) (by simp [Value.cells, Value.oneCell']) (by simp [Value.cells]) ?_) | (refine xk_storeN 3 rfl rfl rfl (by kernel_rfl) (by simp [Value.cells, Value.oneCell']) (by simp [Value.cells]) ?_) | (refine xk_storeN 4 rfl rfl rfl (by kernel_rfl) (by simp [Value.cells, Value.oneCell']) (by simp [Value.cells]) ?_) | (refine xk_storeN 5 rfl rfl rfl (by kernel_rfl) (by simp [Value.cells, Value.oneCell']) (by simp [Value.cells]) ?_) | (refine xk_storeN 6 rfl rfl rfl (by kernel_rfl) (by simp [Value.cells, Value.oneCell']) (by simp [Value.cells]) ?_) | (refine xk_storeN 7 rfl rfl rfl (by kernel_rfl) (by simp [Value.cells, Value.oneCell']) (by simp [Value.cells]) ?_) | (refine xk_storeN 8 rfl rfl rfl (by kernel_rfl) (by simp [Value.cells, Value.oneCell']) (by simp [Value.cells]) ?_)); simp only [putN, Value.cells, List.set, List.take, List.drop, List.nil_append, List.append_nil, List.length_cons, List.length_nil, List.cons_append, Nat.reduceAdd]
  refine XK.nilN ?_
  refine XK.ret ?_
  refine XK.norm ?_
  exact XK.retC rfl (by kernel_rfl) rfl rfl (RdN.whole 1 rfl) fun w1 st => ⟨.inl ⟨_, rfl, cl, Af, cf, hcl, rfl, hSq.le (st.fresh_le (by simp) hFq)⟩, st.below (by simp)⟩

end Go.Proofs.YtgopaoidgcgalaaGreatDoor
/- package lines: a line is taken into a description. -/
namespace Go.Proofs.YtgopaoidgcgalaaGreatDoor
set_option linter.all false
open Go.RowKit
def aboveF (s : ByteArray) : Option Int := if s = ⟨#[45]⟩ then some (-1) else (numF s).map fun n => (n : Int)
def domF : List ByteArray → Option Dom
  | [a, b, c] => match aboveF a, numF b, keptF c with
    | some x, some y, some z => some ⟨x, (y : Int), z⟩
    | _, _, _ => none
  | _ => none
def devF (args : List ByteArray) : Option Dev := if 4 ≤ args.length then
    match numsF (args.take 3), args[3]?.bind w32F, numsF (args.drop 4) with
    | some [x, y, z], some m, some l => some ⟨x, y, z, (m : Int), [], l⟩
    | _, _, _ => none
  else none
def resF : List ByteArray → Option Int
  | [a] => (numF a).map fun n => (n : Int)
  | _ => none
def regF (s : Soc) : List ByteArray → Option Soc
  | [a, b] => match s.devs[s.devs.length - 1]?, w32F a, keptF b with
    | some d, some r, some k => some ⟨s.clocks, s.domains, s.resets, s.devs.set (s.devs.length - 1) ⟨d.clock, d.domain, d.reset, d.clamp, d.regs ++ [⟨(r : Int), k⟩], d.needs⟩⟩
    | _, _, _ => none
  | _ => none
/-- what a line makes of a description -/
def takeF (s : Soc) : List ByteArray → Option Soc
  | [] => none
  | k :: args =>
    if k = ⟨#[99, 108, 111, 99, 107]⟩ then (clockF args).map fun c => ⟨s.clocks ++ [c], s.domains, s.resets, s.devs⟩
    else if k = ⟨#[100, 111, 109, 97, 105, 110]⟩ then (domF args).map fun d => ⟨s.clocks, s.domains ++ [d], s.resets, s.devs⟩
    else if k = ⟨#[114, 101, 115, 101, 116]⟩ then ((resF args).map fun r => ⟨s.clocks, s.domains, s.resets ++ [r], s.devs⟩)
    else if k = ⟨#[100, 101, 118, 105, 99, 101]⟩ then (devF args).map fun d => ⟨s.clocks, s.domains, s.resets, s.devs ++ [d]⟩
    else if k = ⟨#[114, 101, 103]⟩ then regF s args
    else none
def domCells (d : Dom) : List Value := [.int .i64 d.above, .int .i64 d.delay, .bool d.ret]
def clkRow (x : Clk × Option Addr × Nat) : List Value := [.int .u8 x.1.kind, .slice x.2.1 x.1.src.length x.2.2, .int .u64 x.1.rate, .int .i64 x.1.mul, .int .i64 x.1.div, .int .i64 x.1.lock]
abbrev DvX := Dev × (Option Addr × Nat) × (Option Addr × Nat)
def devRow (x : DvX) : List Value := [.int .i64 x.1.clock, .int .i64 x.1.domain, .int .i64 x.1.reset, .int .u32 x.1.clamp, .slice x.2.1.1 x.1.regs.length x.2.1.2, .slice x.2.2.1 x.1.needs.length x.2.2.2]
def regOwn (x : DvX) : HP := HP.own 57 2 (.slice x.2.1.1 x.1.regs.length x.2.1.2) x.1.regs.length (x.1.regs.flatMap Rg.cells)
def picY (cs : List (Clk × Option Addr × Nat)) (ds : List DvX) (p : Piece) : Prop := (∀ x ∈ cs, SlS p 1 x.2.1 x.1.src.length (intCells x.1.src)) ∧ ∀ x ∈ ds, SlS p 1 x.2.2.1 x.1.needs.length (intCells x.1.needs)
theorem picY_mono (cs : List (Clk × Option Addr × Nat)) (ds : List DvX) : ∀ p q : Piece, p.Le q → picY cs ds p → picY cs ds q := fun _ _ hl h => ⟨fun x hx => (h.1 x hx).le hl, fun x hx => (h.2 x hx).le hl⟩
def sls1 (A : Option Addr) (l : List Int) (p : Piece) : Prop := SlS p 1 A l.length (intCells l)
theorem sls1_mono (A : Option Addr) (l : List Int) : ∀ p q : Piece, p.Le q → sls1 A l p → sls1 A l q := fun _ _ hl h => SlS.le h hl
/-- a description as it is built up -/
structure SocY where
  cs : List (Clk × Option Addr × Nat)
  dm : List Dom
  rs : List Int
  ds : List DvX
  A1 : Option Addr
  n1 : Nat
  c1 : Nat
  A2 : Option Addr
  n2 : Nat
  c2 : Nat
  A3 : Option Addr
  n3 : Nat
  c3 : Nat
  A4 : Option Addr
  n4 : Nat
  c4 : Nat
  L1 : List Value
  L2 : List Value
  L3 : List Value
  L4 : List Value
  rg : List HP
structure SocY.of (x : SocY) (s : Soc) : Prop where
  clocks : x.cs.map (·.1) = s.clocks
  domains : x.dm = s.domains
  resets : x.rs = s.resets
  devs : x.ds.map (·.1) = s.devs
  n1 : x.n1 = x.cs.length
  n2 : x.n2 = x.dm.length
  n3 : x.n3 = x.rs.length
  n4 : x.n4 = x.ds.length
  L1 : x.L1 = x.cs.flatMap clkRow
  L2 : x.L2 = x.dm.flatMap domCells
  L3 : x.L3 = intCells x.rs
  L4 : x.L4 = x.ds.flatMap devRow
  rg : x.rg = x.ds.map regOwn
def SocY.hp (g : Nat) (x : SocY) : HP := HP.many [HP.blk g 28 [.slice x.A1 x.n1 x.c1, .slice x.A2 x.n2 x.c2, .slice x.A3 x.n3 x.c3, .slice x.A4 x.n4 x.c4],
  HP.own 55 6 (.slice x.A1 x.n1 x.c1) x.n1 x.L1, HP.own 69 3 (.slice x.A2 x.n2 x.c2) x.n2 x.L2, HP.own 71 1 (.slice x.A3 x.n3 x.c3) x.n3 x.L3, HP.own 51 6 (.slice x.A4 x.n4 x.c4) x.n4 x.L4, HP.many x.rg, HP.pic (picY x.cs x.ds) (picY_mono x.cs x.ds)]
def SocH (g : Nat) (s : Soc) : HP := HP.ex fun x : {x : SocY // x.of s} => x.1.hp g
/-- few enough -/
structure Soc.few (s : Soc) (k : Nat) : Prop where
  clocks : s.clocks.length ≤ k
  domains : s.domains.length ≤ k
  resets : s.resets.length ≤ k
  devs : s.devs.length ≤ k
  regs : ∀ d ∈ s.devs, d.regs.length ≤ k
theorem devRow_len (x : DvX) : (devRow x).length = 6 := rfl
theorem flat_set {α : Type} (f : α → List Value) (sz j : Nat) (v : Value) (hj : j < sz) {x' : α} : ∀ (ds : List α) (i : Nat) (x : α), (∀ y ∈ ds, (f y).length = sz) → ds[i]? = some x → f x' = (f x).set j v → (ds.flatMap f).set (i * sz + j) v = (ds.set i x').flatMap f
  | [], i, x, _, h, _ => by simp at h
  | y :: ds, 0, x, hl, h, hf => by
    simp at h; subst h
    rw [List.flatMap_cons, List.set_cons_zero, List.flatMap_cons, hf, List.set_append_left _ _ (by rw [hl y (by simp)]; omega)]
    simp
  | y :: ds, i + 1, x, hl, h, hf => by
    have hy := hl y (by simp)
    have ih := flat_set f sz j v hj ds i x (fun z hz => hl z (by simp [hz])) (by simpa using h) hf
    rw [List.flatMap_cons, List.set_cons_succ, List.flatMap_cons, ← ih, List.set_append_right _ _ (by rw [hy, Nat.succ_mul]; omega)]
    congr 2
    rw [hy, Nat.succ_mul]; omega
section
variable {P : Program} {N : Frm} {w0 w : World} {K : Act → World → Prop} {e : Env} {R : List Piece} {H H' : List HP}
/-- a chunk more -/
theorem XK.push {p : HP} {ps : List HP} (h : XK N w0 K e R (HP.many (ps ++ [p]) :: H)) : XK N w0 K e R (p :: HP.many ps :: H) := fun a w hr st => by
  obtain ⟨Z, F, hz, hrr, hs, hff, hdd⟩ := st.ex
  obtain ⟨G, hG1, hG2, hG3⟩ := hs 1 _ rfl
  refine h a w hr ⟨st.os, st.tape, st.output, st.size, Z, fun j => match j with | 0 => fun b => F 0 b ∨ F 1 b | j + 1 => F (j + 2), hz, hrr, fun j r hj => ?_, fun j b hb => ?_, fun j k b hjk hj hk => ?_⟩
  · cases j with
    | zero =>
      simp at hj
      subst hj
      refine ⟨fun i b => if i < ps.length then G i b else i = ps.length ∧ F 0 b, fun i r hi => ?_, fun i b hb => ?_, fun i k b hik h1 h2 => ?_⟩
      · rcases Nat.lt_or_ge i ps.length with hl | hl
        · rw [List.getElem?_append_left hl] at hi
          show r.sat (fun b => if i < ps.length then G i b else i = ps.length ∧ F 0 b) w
          rw [show (fun b => if i < ps.length then G i b else i = ps.length ∧ F 0 b) = G i by funext b; rw [if_pos hl]]
          exact hG1 i r hi
        · rw [List.getElem?_append_right hl] at hi
          have h0 := hlt_of hi
          have hil : i = ps.length := by simp at h0; omega
          subst hil
          simp at hi
          subst hi
          show p.sat (fun b => if ps.length < ps.length then G ps.length b else ps.length = ps.length ∧ F 0 b) w
          rw [show (fun b => if ps.length < ps.length then G ps.length b else ps.length = ps.length ∧ F 0 b) = F 0 by funext b; simp]
          exact hs 0 _ rfl
      · dsimp only at hb
        split at hb
        · exact .inr (hG2 i b hb)
        · exact .inl hb.2
      · dsimp only at h1 h2
        split at h1 <;> split at h2
        · exact hG3 i k b hik h1 h2
        · exact hdd 1 0 b (by omega) (hG2 i b h1) h2.2
        · exact hdd 0 1 b (by omega) h1.2 (hG2 k b h2)
        · omega
    | succ j => exact hs (j + 2) r (by simpa using hj)
  · cases j with
    | zero => rcases hb with hb | hb <;> exact hff _ b hb
    | succ j => exact hff _ b hb
  · cases j with
    | zero => cases k with
      | zero => exact hjk rfl
      | succ k => rcases hj with hj | hj
                  · exact hdd 0 (k + 2) b (by omega) hj hk
                  · exact hdd 1 (k + 2) b (by omega) hj hk
    | succ j => cases k with
      | zero => rcases hk with hk | hk
                · exact hdd 0 (j + 2) b (by omega) hk hj
                · exact hdd 1 (j + 2) b (by omega) hk hj
      | succ k => exact hdd (j + 2) (k + 2) b (by omega) hj hk
end
/-- all but the first k, as a value -/
theorem sliceL_all {P : Program} {t el : TypeId} {sz n c k : Nat} {A : Option Addr} {kd : IntKind} (ht : P.underlying t = some (.slice el)) (hsz : (P.info? el).map (·.size) = some sz) (hk : k ≤ n) (hc : n ≤ c) :
    ∃ A', (k < n → ∀ b off, A = some ⟨b, off, none⟩ → A' = some ⟨b, off + k * sz, none⟩) ∧ ∀ w, (Instr.sliceAt t (.slice A n c) (some (.int kd (k : Int))) none none).run P w = .ok (.slice A' (n - k) (c - k)) w := by
  obtain ⟨i, hi, hs⟩ := Option.map_eq_some_iff.1 hsz
  have hel := elem_eq ht
  refine ⟨_, ?_, fun w => by rw [run_sliceAt_slice w t _ _ _ _ (sl_elem ht), run_slice_l w t A n c (sl_elem ht) kd k (by omega) (by omega), hel]; simp [sizeOf, typeInfo, hi, sliced]; rfl⟩
  rintro h0 b off rfl
  rw [if_neg (by omega)]
  simp [Addr.add, hs]
theorem does_sliceL {P : Program} {N : Frm} {w0 : World} {e : Env} {R : List Piece} {H : List HP} {d : Nat} {ty : TypeId} {pos : String} {aft : Array Edge} {x lo : Operand} {t : TypeId} {v u y : Value} (hx : e.ev x = some v) (hh : e.ev lo = some u) (hrun : ∀ w, (Instr.sliceAt t v (some u) none none).run P w = .ok y w) : Does P N w0 e R H ⟨some d, .slice t x (some lo) none none, ty, pos, aft, none⟩ y := does_of fun a w hr => by
  simp only [execOp, hr.ev hx, Option.map_some, Option.map_none, hr.ev hh, Sem.run_bind, hrun, Result.andThen_ok, Sem.run_pure]

theorem take_x (g : Nat) (s : Soc) (ws : List ByteArray) (A : Option Addr) (n c : Nat) (w : World) (F : Nat → Prop) (hp : (SocH g s).sat F w) (hF : ∀ b, F b → b < w.heap.size) (hfew : s.few 8000) (hS : SlS ⟨w, fun b => b < w.heap.size ∧ ¬ F b⟩ 1 A n (strCells ws)) (hn : ws.length = n) (hn1 : 1 ≤ n) (hnc : n ≤ c) (hn63 : n ≤ 1000000) (hsz : ∀ s ∈ ws, s.size < 4294967296) :
    Calls Tryz.prog 25 #[.pointer (some ⟨g, 0, none⟩), .slice A n c] w (OutT (.tuple #[]) ((takeF s ws).isSome = true) (SocH g ((takeF s ws).getD s)) (takeF s ws = none) w F) := by
  refine XK.enterM (p := SocH g s) (F := F) (vs := [.pointer (some ⟨g, 0, none⟩), .slice A n c]) Tryz.func25 rfl Tryz.ntmps25 (by simp) hp hF ?_
  obtain ⟨p0, hp0⟩ : ∃ p0, p0 = (⟨w, fun b => b < w.heap.size ∧ ¬ F b⟩ : Piece) := ⟨_, rfl⟩
  rw [← hp0] at hS ⊢
  have hR0 : ∀ p ∈ [p0], ∀ b, p.Z b → b < w.heap.size := by
    intro p hp b hb
    simp at hp
    subst hp
    rw [hp0] at hb
    exact hb.1
  refine XK.openEx 0 rfl ?_
  rintro ⟨⟨cs, dm, rs, ds, A1, n1, c1, A2, n2, c2, A3, n3, c3, A4, n4, c4, L1, L2, L3, L4, rg⟩, hx⟩
  dsimp only [List.set, SocY.hp]
  refine XK.take 0 0 rfl rfl ?_
  dsimp only [List.set]
  obtain ⟨e1, e2, e3, e4, e5, e6, e7, e8, e9, e10, e11, e12, e13⟩ := hx
  dsimp only at e1 e2 e3 e4 e5 e6 e7 e8 e9 e10 e11 e12 e13
  have hl1 : n1 = s.clocks.length := by rw [e5, ← e1]; simp
  have hl2 : n2 = s.domains.length := by rw [e6, e2]
  have hl3 : n3 = s.resets.length := by rw [e7, e3]
  have hl4 : n4 = s.devs.length := by rw [e8, ← e4]; simp
  have f1 := hfew.clocks
  have f2 := hfew.domains
  have f3 := hfew.resets
  have f4 := hfew.devs
  obtain ⟨k0, args, rfl⟩ : ∃ k0 args, ws = k0 :: args := by
    cases ws with
    | nil => simp at hn; omega
    | cons k0 r => exact ⟨k0, r, rfl⟩
  obtain ⟨b0, off, rfl, hz, hc⟩ := hS.2 (by omega)
  have hnr : n = args.length + 1 := by simp at hn; omega
  have hsr : ∀ s ∈ args, s.size < 4294967296 := fun s hs => hsz s (by simp [hs])
  refine XK.seq ?_

  refine XK.region ?_
  refine xk_move rfl (by decide) ?_
  refine xk_sliceL 1 (el := 9) (sz := 1) (by kernel_rfl) (by kernel_rfl) rfl rfl rfl (by omega) hnc (by decide) fun Aa hA2 => ?_
  have hS2 : SlS p0 1 Aa (n - 1) (strCells args) := by
    have h := SlS.dropP (k := 1) hS (by omega) hA2
    rw [strCells_drop] at h
    exact h
  rw [show n - 1 = args.length by omega] at hS2 ⊢
  generalize hca : c - 1 = ca
  have hcal : args.length ≤ ca := by omega
  refine xk_assign rfl (by decide) ?_
  refine XK.nilN ?_
  refine XK.seq ?_

  refine XK.region ?_
  refine xk_move rfl (by decide) ?_
  refine xk_at 0 (off + 0) (el := 9) (sz := 1) (by kernel_rfl) (by kernel_rfl) rfl rfl (by rfl) (by omega) (by omega) (by decide) ?_
  refine xk_load (by kernel_rfl) rfl (Rd.ro (p := p0) (by simp) hz (hc 0 _ rfl)) (by decide) ?_
  refine XK.nilN ?_
  refine XK.block ?_
  refine XK.seq ?_

  refine XK.region ?_
  refine xk_eqlStr (by kernel_rfl) rfl rfl (by decide) ?_
  refine xk_assign rfl (by decide) ?_
  refine XK.nilN ?_
  refine XK.if_ rfl (fun hk1 => ?_) (fun hk1 => ?_)
  have hk1t : takeF s (k0 :: args) = (clockF args).map fun c => ⟨s.clocks ++ [c], s.domains, s.resets, s.devs⟩ := if_pos hk1
  refine XK.take 1 1 rfl rfl ?_
  dsimp only [List.set]
  ·

    refine XK.draw1 [p0] [HP.blk g 28 [.slice A1 n1 c1, .slice A2 n2 c2, .slice A3 n3 c3, .slice A4 n4 c4], HP.many [HP.emp, HP.emp, HP.own 69 3 (.slice A2 n2 c2) n2 L2, HP.own 71 1 (.slice A3 n3 c3) n3 L3, HP.own 51 6 (.slice A4 n4 c4) n4 L4, HP.many rg, HP.pic (picY cs ds) (picY_mono cs ds)]] 9 (by kernel_rfl) (by kernel_rfl) ?_
    refine XA.dA 0 rfl rfl rfl (does_move rfl) ?_
    refine XA.dA 1 rfl rfl rfl (does_move rfl) ?_
    refine XA.dA 2 rfl rfl rfl (does_nilC rfl) ?_
    refine XA.dA 3 rfl rfl rfl (does_field (off := 0) (by kernel_rfl) rfl) ?_
    refine XA.dA 4 rfl rfl rfl (does_ld rfl) ?_
    refine XA.dA 5 rfl rfl rfl (does_move rfl) ?_
    refine XA.next 6 rfl (by kernel_rfl) ?_
    refine xk_callX [] (f := 75) (fi := []) (ca := []) (by kernel_rfl) rfl rfl (by decide) (by simp) (fun v w w' => ∃ (cl : Clk) (A' : Option Addr) (c' : Nat), clockF args = some cl ∧ v = .agg #[.int .u8 cl.kind, .slice A' cl.src.length c', .int .u64 cl.rate, .int .i64 cl.mul, .int .i64 cl.div, .int .i64 cl.lock] ∧ SlS (fresh w w') 1 A' cl.src.length (intCells cl.src)) (clockF args = none) (fun w1 st => toClock_x args Aa args.length ca w1 (hS2.le (st.le (by simp))) rfl hcal (by omega) hsr) (fun hp T u => by
      (repeat (first | refine XK.thenP ?_ | refine XK.inP ?_))
      exact XK.retP fun w1 st => .inr ⟨hk1t.trans (by rw [hp]; rfl), ⟨T, u, rfl⟩, (st.turns hF (by simp [hp0]) (i := 0) rfl).imp fun _ h => h.2⟩) ?_
    rintro _ w1 q1 ⟨cl, Ac, cc, hcl, rfl, hSc⟩ hq1 _ hF1
    have hSc := hSc.le hq1
    have hF1 := hF1 (by simp)
    have htk : takeF s (k0 :: args) = some ⟨s.clocks ++ [cl], s.domains, s.resets, s.devs⟩ := hk1t.trans (by rw [hcl]; rfl)
    refine XA.bk ?_
    refine XA.next 7 rfl (by kernel_rfl) ?_
    refine xk_slice (el := 55) (sz := 6) (zs := [.int .u8 0, .slice none 0 0, .int .u64 0, .int .i64 0, .int .i64 0, .int .i64 0]) (by kernel_rfl) (zeroB_of (by kernel_rfl)) (by kernel_rfl) rfl (by decide) (by decide) rfl (by simp [fillL, setN, Value.cells, List.range_succ, List.set]; rfl) (by decide) fun g1 => ?_
    refine XA.bk ?_
    refine XA.next 8 rfl (by kernel_rfl) ?_
    refine xk_appendT 1 6 64 1 (n' := n1 + 1) (el := 55) (by kernel_rfl) (by kernel_rfl) (by decide) rfl rfl rfl (sl_blk 0 rfl rfl) (by simp [Value.oneCell']) rfl (by omega) (by omega) (by decide) fun An cn => ?_
    dsimp only [List.set]
    refine XA.bk ?_
    refine XA.next 9 rfl (by kernel_rfl) ?_
    refine xk_nilC rfl (by decide) ?_
    refine XA.bt ?_
    refine XA.next 10 rfl (by kernel_rfl) ?_
    refine xk_field (off := 0) (by kernel_rfl) rfl (by decide) ?_
    refine XA.bt ?_
    refine XA.next 11 rfl (by kernel_rfl) ?_
    refine xk_st rfl rfl ?_; dsimp only [List.set]
    refine XA.bt ?_
    refine XA.done (by kernel_rfl) ?_
    refine XK.norm ?_
    refine XK.weak [1, 2, 3] rfl (by decide) (fun _ h => h) ?_
    refine XK.ownP (Φ := sls1 Ac cl.src) (hm := sls1_mono Ac cl.src) hF1 hR0 hSc ?_
    refine XK.take 3 6 rfl rfl ?_
    dsimp only [List.set]
    refine XK.joinPic (X := picY (cs ++ [(cl, Ac, cc)]) ds) (h3 := picY_mono _ _) (fun p h1 h2 => ⟨fun x hx => by
      rcases List.mem_append.1 hx with hx | hx
      · exact h1.1 x hx
      · simp at hx; subst hx; exact h2, h1.2⟩) ?_
    refine XK.give 2 6 rfl rfl ?_
    dsimp only [List.set]
    refine XK.give 1 1 rfl rfl ?_
    dsimp only [List.set]
    refine XK.give 0 0 rfl rfl ?_
    dsimp only [List.set]
    refine XK.toEx 0 (f := fun X0 : {X0 : SocY // X0.of ⟨s.clocks ++ [cl], s.domains, s.resets, s.devs⟩} => X0.1.hp g) ⟨⟨cs ++ [(cl, Ac, cc)], dm, rs, ds, An, n1 + 1, cn, A2, n2, c2, A3, n3, c3, A4, n4, c4, L1 ++ clkRow (cl, Ac, cc), L2, L3, L4, rg⟩, ⟨by simp [e1], e2, e3, e4, by simp [e5], e6, e7, e8, by simp [e9], e10, e11, e12, e13⟩⟩ rfl ?_
    exact XK.ret0 (.inr rfl) rfl fun w1 st => .inl ⟨rfl, by rw [htk]; rfl, by rw [htk]; exact st.turns hF (by simp [hp0]) (i := 0) rfl⟩
  ·
    refine XK.seq ?_

    refine XK.region ?_
    refine xk_eqlStr (by kernel_rfl) rfl rfl (by decide) ?_
    refine xk_assign rfl (by decide) ?_
    refine XK.nilN ?_
    refine XK.if_ rfl (fun hk2 => ?_) (fun hk2 => ?_)
    have hk2t : takeF s (k0 :: args) = (domF args).map fun d => ⟨s.clocks, s.domains ++ [d], s.resets, s.devs⟩ := (if_neg hk1).trans (if_pos hk2)
    ·
      refine XK.seq ?_

      refine XK.region ?_
      refine xk_move rfl (by decide) ?_
      refine xk_len (el := 9) (by kernel_rfl) rfl (by decide) ?_
      refine xk_eql rfl rfl (by decide) ?_
      refine xk_callXV (f := 76) (fi := []) (ca := []) (by kernel_rfl) rfl rfl (by decide) (fun v => ((args.length : Int) = 3) ∧ v = .tuple #[]) (¬ ((args.length : Int) = 3)) (fun w1 st => must_x ((args.length : Int) = 3) w1) (fun hp T u => by
        (repeat (first | refine XK.thenP ?_ | refine XK.inP ?_))
        exact XK.retP fun w1 st => .inr ⟨hk2t.trans (by
          have h2 : args.length ≠ 3 := by omega
          match args, h2 with
          | [], _ => rfl
          | [a], _ => rfl
          | [a, b], _ => rfl
          | [a, b, c], h2 => simp at h2
          | a :: b :: c :: d :: r, _ => rfl), ⟨T, u, rfl⟩, (st.turns hF (by simp [hp0]) (i := 0) rfl).imp fun _ h => h.2⟩) ?_
      rintro _ ⟨hm, rfl⟩
      obtain ⟨sa, sb, sc, rfl⟩ := len3 (show args.length = 3 by omega)
      obtain ⟨ba, offa, rfl, hza, hcA⟩ := hS2.2 (by simp)
      refine XK.take 1 2 rfl rfl ?_
      dsimp only [List.set]
      refine XK.nilN ?_
      refine XK.seq ?_

      refine XK.region ?_
      refine xk_assign rfl (by decide) ?_
      refine XK.nilN ?_
      refine XK.cut (fun e R H => ∃ ab : Int, aboveF sa = some ab ∧ e = [(5, .int .i64 ab), (4, .slice (some ⟨ba, offa, none⟩) [sa, sb, sc].length ca), (0, .pointer (some ⟨g, 0, none⟩))] ∧ R = [p0] ∧ H = [HP.own 69 3 (.slice A2 n2 c2) n2 L2, HP.blk g 28 [.slice A1 n1 c1, .slice A2 n2 c2, .slice A3 n3 c3, .slice A4 n4 c4], HP.many [HP.emp, HP.own 55 6 (.slice A1 n1 c1) n1 L1, HP.emp, HP.own 71 1 (.slice A3 n3 c3) n3 L3, HP.own 51 6 (.slice A4 n4 c4) n4 L4, HP.many rg, HP.pic (picY cs ds) (picY_mono cs ds)]]) ?_ ?_
      ·
        refine XK.seq ?_

        refine XK.region ?_
        refine xk_move rfl (by decide) ?_
        refine xk_at 0 (offa + 0) (el := 9) (sz := 1) (by kernel_rfl) (by kernel_rfl) rfl rfl rfl (by simp) (by omega) (by decide) ?_
        refine xk_load (by kernel_rfl) rfl (Rd.ro (p := p0) (by simp) hza (hcA 0 _ rfl)) (by decide) ?_
        refine xk_neqStr (by kernel_rfl) rfl rfl (by decide) ?_
        refine XK.nilN ?_
        refine XK.if_ rfl (fun hda => ?_) (fun hda => ?_)
        ·

          refine XK.region ?_
          refine xk_move rfl (by decide) ?_
          refine xk_at 0 (offa + 0) (el := 9) (sz := 1) (by kernel_rfl) (by kernel_rfl) rfl rfl rfl (by simp) (by omega) (by decide) ?_
          refine xk_load (by kernel_rfl) rfl (Rd.ro (p := p0) (by simp) hza (hcA 0 _ rfl)) (by decide) ?_
          refine xk_callXV (f := 77) (fi := []) (ca := []) (by kernel_rfl) rfl rfl (by decide) (fun v => ∃ n, numF sa = some n ∧ v = .int .i64 (n : Int)) (numF sa = none) (fun w1 st => toInt_x sa (hsr sa (by simp)) w1) (fun hp T u => by
            (repeat (first | refine XK.thenP ?_ | refine XK.inP ?_))
            exact XK.retP fun w1 st => .inr ⟨hk2t.trans (by rw [domF, aboveF, if_neg hda, hp]; rfl), ⟨T, u, rfl⟩, (st.turns hF (by simp [hp0]) (i := 0) rfl).imp fun _ h => h.2⟩) ?_
          rintro _ ⟨na, hna, rfl⟩
          refine xk_assign rfl (by decide) ?_
          refine XK.nilN ?_
          exact XK.envS [(5, .int .i64 (na : Int)), (4, .slice (some ⟨ba, offa, none⟩) [sa, sb, sc].length ca), (0, .pointer (some ⟨g, 0, none⟩))] (XK.meet ⟨na, by rw [aboveF, if_neg hda, hna]; rfl, rfl, rfl, rfl⟩)
        ·
          refine XK.skip ?_
          refine XK.norm ?_
          exact XK.envS [(5, .int .i64 (-1)), (4, .slice (some ⟨ba, offa, none⟩) [sa, sb, sc].length ca), (0, .pointer (some ⟨g, 0, none⟩))] (XK.meet ⟨-1, if_pos (Classical.not_not.1 hda), rfl, rfl, rfl⟩)
      rintro _ _ _ ⟨ab, hab, rfl, rfl, rfl⟩

      refine XK.draw1 [p0] [HP.blk g 28 [.slice A1 n1 c1, .slice A2 n2 c2, .slice A3 n3 c3, .slice A4 n4 c4], HP.many [HP.emp, HP.own 55 6 (.slice A1 n1 c1) n1 L1, HP.emp, HP.own 71 1 (.slice A3 n3 c3) n3 L3, HP.own 51 6 (.slice A4 n4 c4) n4 L4, HP.many rg, HP.pic (picY cs ds) (picY_mono cs ds)]] 17 (by kernel_rfl) (by kernel_rfl) ?_
      refine XA.dA 0 rfl rfl rfl (does_move rfl) ?_
      refine XA.dA 1 rfl rfl rfl (does_move rfl) ?_
      refine XA.dA 2 rfl rfl rfl (does_nilC rfl) ?_
      refine XA.dA 3 rfl rfl rfl (does_field (off := 1) (by kernel_rfl) rfl) ?_
      refine XA.dA 4 rfl rfl rfl (does_ld rfl) ?_
      refine XA.dA 5 rfl rfl rfl (does_move rfl) ?_
      refine XA.dA 6 rfl rfl rfl (does_move rfl) ?_
      refine XA.dA 7 rfl rfl rfl (does_at 1 (offa + 1) (el := 9) (sz := 1) (by kernel_rfl) (by kernel_rfl) rfl rfl rfl (by simp) (by omega)) ?_
      refine XA.dA 8 rfl rfl rfl (does_load (by kernel_rfl) rfl (Rd.ro (p := p0) (by simp) hza (hcA 1 _ rfl))) ?_
      refine XA.dA 10 rfl rfl rfl (does_move rfl) ?_
      refine XA.dA 11 rfl rfl rfl (does_at 2 (offa + 2) (el := 9) (sz := 1) (by kernel_rfl) (by kernel_rfl) rfl rfl rfl (by simp) (by omega)) ?_
      refine XA.dA 12 rfl rfl rfl (does_load (by kernel_rfl) rfl (Rd.ro (p := p0) (by simp) hza (hcA 2 _ rfl))) ?_
      refine XA.next 9 rfl (by kernel_rfl) ?_
      refine xk_callXV (f := 77) (fi := []) (ca := []) (by kernel_rfl) rfl rfl (by decide) (fun v => ∃ n, numF sb = some n ∧ v = .int .i64 (n : Int)) (numF sb = none) (fun w1 st => toInt_x sb (hsr sb (by simp)) w1) (fun hp T u => by
        (repeat (first | refine XK.thenP ?_ | refine XK.inP ?_))
        exact XK.retP fun w1 st => .inr ⟨hk2t.trans (by rw [domF, hab, hp]; rfl), ⟨T, u, rfl⟩, (st.turns hF (by simp [hp0]) (i := 0) rfl).imp fun _ h => h.2⟩) ?_
      rintro _ ⟨nb, hnb, rfl⟩
      refine XA.bk ?_
      refine XA.next 13 rfl (by kernel_rfl) ?_
      refine xk_callXV (f := 78) (fi := []) (ca := []) (by kernel_rfl) rfl rfl (by decide) (fun v => ∃ b : Bool, keptF sc = some b ∧ v = .bool b) (keptF sc = none) (fun w1 st => toKept_x sc w1) (fun hp T u => by
        (repeat (first | refine XK.thenP ?_ | refine XK.inP ?_))
        exact XK.retP fun w1 st => .inr ⟨hk2t.trans (by rw [domF, hab, hnb, hp]; rfl), ⟨T, u, rfl⟩, (st.turns hF (by simp [hp0]) (i := 0) rfl).imp fun _ h => h.2⟩) ?_
      rintro _ ⟨kp, hkp, rfl⟩
      have htk : takeF s (k0 :: [sa, sb, sc]) = some ⟨s.clocks, s.domains ++ [⟨ab, (nb : Int), kp⟩], s.resets, s.devs⟩ := hk2t.trans (by rw [domF, hab, hnb, hkp]; rfl)
      refine XA.bk ?_
      refine XA.dA 14 rfl rfl rfl (does_buildS (zs := [.int .i64 0, .int .i64 0, .bool false]) (L := [(0, 1), (1, 1), (2, 1)]) (zeroB_of (by kernel_rfl)) (by kernel_rfl) rfl (by simp [fillL, setN, Value.cells]; rfl)) ?_
      refine XA.next 15 rfl (by kernel_rfl) ?_
      refine xk_slice (el := 69) (sz := 3) (zs := [.int .i64 0, .int .i64 0, .bool false]) (by kernel_rfl) (zeroB_of (by kernel_rfl)) (by kernel_rfl) rfl (by decide) (by decide) rfl (by simp [fillL, setN, Value.cells, List.range_succ, List.set]; rfl) (by decide) fun g2 => ?_
      refine XA.bk ?_
      refine XA.next 16 rfl (by kernel_rfl) ?_
      refine xk_appendT 1 3 24 1 (n' := n2 + 1) (el := 69) (by kernel_rfl) (by kernel_rfl) (by decide) rfl rfl rfl (sl_blk 0 rfl rfl) (by simp [Value.oneCell']) rfl (by omega) (by omega) (by decide) fun An cn => ?_
      dsimp only [List.set]
      refine XA.bk ?_
      refine XA.next 17 rfl (by kernel_rfl) ?_
      refine xk_nilC rfl (by decide) ?_
      refine XA.bt ?_
      refine XA.next 18 rfl (by kernel_rfl) ?_
      refine xk_field (off := 1) (by kernel_rfl) rfl (by decide) ?_
      refine XA.bt ?_
      refine XA.next 19 rfl (by kernel_rfl) ?_
      refine xk_st rfl rfl ?_; dsimp only [List.set]
      refine XA.bt ?_
      refine XA.done (by kernel_rfl) ?_
      refine XK.norm ?_
      refine XK.weak [1, 2, 3] rfl (by decide) (fun _ h => h) ?_
      refine XK.give 1 2 rfl rfl ?_
      dsimp only [List.set]
      refine XK.give 0 0 rfl rfl ?_
      dsimp only [List.set]
      refine XK.toEx 0 (f := fun X0 : {X0 : SocY // X0.of ⟨s.clocks, s.domains ++ [⟨ab, (nb : Int), kp⟩], s.resets, s.devs⟩} => X0.1.hp g) ⟨⟨cs, dm ++ [⟨ab, (nb : Int), kp⟩], rs, ds, A1, n1, c1, An, n2 + 1, cn, A3, n3, c3, A4, n4, c4, L1, L2 ++ domCells ⟨ab, (nb : Int), kp⟩, L3, L4, rg⟩, ⟨e1, by simp [e2], e3, e4, e5, by simp [e6], e7, e8, e9, by simp [e10], e11, e12, e13⟩⟩ rfl ?_
      exact XK.ret0 (.inr rfl) rfl fun w1 st => .inl ⟨rfl, by rw [htk]; rfl, by rw [htk]; exact st.turns hF (by simp [hp0]) (i := 0) rfl⟩
    ·
      refine XK.seq ?_

      refine XK.region ?_
      refine xk_eqlStr (by kernel_rfl) rfl rfl (by decide) ?_
      refine xk_assign rfl (by decide) ?_
      refine XK.nilN ?_
      refine XK.if_ rfl (fun hk3 => ?_) (fun hk3 => ?_)
      have hk3t : takeF s (k0 :: args) = ((resF args).map fun r => ⟨s.clocks, s.domains, s.resets ++ [r], s.devs⟩) := (if_neg hk1).trans ((if_neg hk2).trans (if_pos hk3))
      ·
        refine XK.seq ?_

        refine XK.region ?_
        refine xk_move rfl (by decide) ?_
        refine xk_len (el := 9) (by kernel_rfl) rfl (by decide) ?_
        refine xk_eql rfl rfl (by decide) ?_
        refine xk_callXV (f := 76) (fi := []) (ca := []) (by kernel_rfl) rfl rfl (by decide) (fun v => ((args.length : Int) = 1) ∧ v = .tuple #[]) (¬ ((args.length : Int) = 1)) (fun w1 st => must_x ((args.length : Int) = 1) w1) (fun hp T u => by
          (repeat (first | refine XK.thenP ?_ | refine XK.inP ?_))
          exact XK.retP fun w1 st => .inr ⟨hk3t.trans (by
            have h2 : args.length ≠ 1 := by omega
            match args, h2 with
            | [], _ => rfl
            | [a], h2 => simp at h2
            | a :: b :: r, _ => rfl), ⟨T, u, rfl⟩, (st.turns hF (by simp [hp0]) (i := 0) rfl).imp fun _ h => h.2⟩) ?_
        rintro _ ⟨hm, rfl⟩
        obtain ⟨sa, rfl⟩ := len1 (show args.length = 1 by omega)
        obtain ⟨ba, offa, rfl, hza, hcA⟩ := hS2.2 (by simp)
        refine XK.take 1 3 rfl rfl ?_
        dsimp only [List.set]
        refine XK.nilN ?_

        refine XK.draw1 [p0] [HP.blk g 28 [.slice A1 n1 c1, .slice A2 n2 c2, .slice A3 n3 c3, .slice A4 n4 c4], HP.many [HP.emp, HP.own 55 6 (.slice A1 n1 c1) n1 L1, HP.own 69 3 (.slice A2 n2 c2) n2 L2, HP.emp, HP.own 51 6 (.slice A4 n4 c4) n4 L4, HP.many rg, HP.pic (picY cs ds) (picY_mono cs ds)]] 12 (by kernel_rfl) (by kernel_rfl) ?_
        refine XA.dA 0 rfl rfl rfl (does_move rfl) ?_
        refine XA.dA 1 rfl rfl rfl (does_move rfl) ?_
        refine XA.dA 2 rfl rfl rfl (does_nilC rfl) ?_
        refine XA.dA 3 rfl rfl rfl (does_field (off := 2) (by kernel_rfl) rfl) ?_
        refine XA.dA 4 rfl rfl rfl (does_ld rfl) ?_
        refine XA.dA 5 rfl rfl rfl (does_move rfl) ?_
        refine XA.dA 6 rfl rfl rfl (does_at 0 (offa + 0) (el := 9) (sz := 1) (by kernel_rfl) (by kernel_rfl) rfl rfl rfl (by simp) (by omega)) ?_
        refine XA.dA 7 rfl rfl rfl (does_load (by kernel_rfl) rfl (Rd.ro (p := p0) (by simp) hza (hcA 0 _ rfl))) ?_
        refine XA.next 8 rfl (by kernel_rfl) ?_
        refine xk_callXV (f := 77) (fi := []) (ca := []) (by kernel_rfl) rfl rfl (by decide) (fun v => ∃ n, numF sa = some n ∧ v = .int .i64 (n : Int)) (numF sa = none) (fun w1 st => toInt_x sa (hsr sa (by simp)) w1) (fun hp T u => by
          (repeat (first | refine XK.thenP ?_ | refine XK.inP ?_))
          exact XK.retP fun w1 st => .inr ⟨hk3t.trans (by rw [resF, hp]; rfl), ⟨T, u, rfl⟩, (st.turns hF (by simp [hp0]) (i := 0) rfl).imp fun _ h => h.2⟩) ?_
        rintro _ ⟨na, hna, rfl⟩
        have htk : takeF s (k0 :: [sa]) = some ⟨s.clocks, s.domains, s.resets ++ [(na : Int)], s.devs⟩ := hk3t.trans (by rw [resF, hna]; rfl)
        refine XA.bk ?_
        refine XA.dA 9 rfl rfl rfl (does_buildS (zs := [.int .i64 0]) (L := [(0, 1)]) (zeroB_of (by kernel_rfl)) (by kernel_rfl) rfl (by simp [fillL, setN, Value.cells]; rfl)) ?_
        refine XA.next 10 rfl (by kernel_rfl) ?_
        refine xk_slice (el := 71) (sz := 1) (zs := [.int .i64 0]) (by kernel_rfl) (zeroB_of (by kernel_rfl)) (by kernel_rfl) rfl (by decide) (by decide) rfl (by simp [fillL, setN, Value.cells, List.range_succ, List.set]; rfl) (by decide) fun g3 => ?_
        refine XA.bk ?_
        refine XA.next 11 rfl (by kernel_rfl) ?_
        refine xk_appendT 1 1 8 1 (n' := n3 + 1) (el := 71) (by kernel_rfl) (by kernel_rfl) (by decide) rfl rfl rfl (sl_blk 0 rfl rfl) (by simp [Value.oneCell']) rfl (by omega) (by omega) (by decide) fun An cn => ?_
        dsimp only [List.set]
        refine XA.bk ?_
        refine XA.next 12 rfl (by kernel_rfl) ?_
        refine xk_nilC rfl (by decide) ?_
        refine XA.bt ?_
        refine XA.next 13 rfl (by kernel_rfl) ?_
        refine xk_field (off := 2) (by kernel_rfl) rfl (by decide) ?_
        refine XA.bt ?_
        refine XA.next 14 rfl (by kernel_rfl) ?_
        refine xk_st rfl rfl ?_; dsimp only [List.set]
        refine XA.bt ?_
        refine XA.done (by kernel_rfl) ?_
        refine XK.norm ?_
        refine XK.weak [1, 2, 3] rfl (by decide) (fun _ h => h) ?_
        refine XK.give 1 3 rfl rfl ?_
        dsimp only [List.set]
        refine XK.give 0 0 rfl rfl ?_
        dsimp only [List.set]
        refine XK.toEx 0 (f := fun X0 : {X0 : SocY // X0.of ⟨s.clocks, s.domains, s.resets ++ [(na : Int)], s.devs⟩} => X0.1.hp g) ⟨⟨cs, dm, rs ++ [(na : Int)], ds, A1, n1, c1, A2, n2, c2, An, n3 + 1, cn, A4, n4, c4, L1, L2, L3 ++ [.int .i64 (na : Int)], L4, rg⟩, ⟨e1, e2, by simp [e3], e4, e5, e6, by simp [e7], e8, e9, e10, by rw [e11, intCells_one], e12, e13⟩⟩ rfl ?_
        exact XK.ret0 (.inr rfl) rfl fun w1 st => .inl ⟨rfl, by rw [htk]; rfl, by rw [htk]; exact st.turns hF (by simp [hp0]) (i := 0) rfl⟩
      ·
        refine XK.seq ?_

        refine XK.region ?_
        refine xk_eqlStr (by kernel_rfl) rfl rfl (by decide) ?_
        refine xk_assign rfl (by decide) ?_
        refine XK.nilN ?_
        refine XK.if_ rfl (fun hk4 => ?_) (fun hk4 => ?_)
        have hk4t : takeF s (k0 :: args) = (devF args).map fun d => ⟨s.clocks, s.domains, s.resets, s.devs ++ [d]⟩ := (if_neg hk1).trans ((if_neg hk2).trans ((if_neg hk3).trans (if_pos hk4)))
        ·
          refine XK.seq ?_

          refine XK.region ?_
          refine xk_move rfl (by decide) ?_
          refine xk_len (el := 9) (by kernel_rfl) rfl (by decide) ?_
          refine xk_geq rfl rfl (by decide) ?_
          refine xk_callXV (f := 76) (fi := []) (ca := []) (by kernel_rfl) rfl rfl (by decide) (fun v => ((4 : Int) ≤ args.length) ∧ v = .tuple #[]) (¬ ((4 : Int) ≤ args.length)) (fun w1 st => must_x ((4 : Int) ≤ args.length) w1) (fun hp T u => by
            (repeat (first | refine XK.thenP ?_ | refine XK.inP ?_))
            exact XK.retP fun w1 st => .inr ⟨hk4t.trans (by rw [devF, if_neg (by omega)]; rfl), ⟨T, u, rfl⟩, (st.turns hF (by simp [hp0]) (i := 0) rfl).imp fun _ h => h.2⟩) ?_
          rintro _ ⟨hm, rfl⟩
          have h4 : 4 ≤ args.length := by omega
          rw [devF, if_pos h4] at hk4t
          obtain ⟨sm, hsm⟩ : ∃ sm, args[3]? = some sm := ⟨_, List.getElem?_eq_getElem (by omega)⟩
          rw [hsm, Option.bind_some] at hk4t
          have hst : ∀ s ∈ args.take 3, s.size < 4294967296 := fun s hs => hsr s (List.mem_of_mem_take hs)
          have hsd : ∀ s ∈ args.drop 4, s.size < 4294967296 := fun s hs => hsr s (List.mem_of_mem_drop hs)
          obtain ⟨ba, offa, rfl, hza, hcA⟩ := hS2.2 (by omega)
          refine XK.take 1 4 rfl rfl ?_
          dsimp only [List.set]
          refine XK.nilN ?_
          refine XK.seq ?_

          refine XK.region ?_
          refine xk_move rfl (by decide) ?_
          refine xk_sliceH 3 (el := 9) (sz := 1) (by kernel_rfl) (by kernel_rfl) rfl rfl rfl (by omega) (by decide) fun Ah hAh => ?_
          have hSh : SlS p0 1 Ah 3 (strCells (args.take 3)) := by
            have h := SlS.takeP (k := 3) hS2 (by omega) hAh
            rw [strCells_take] at h
            exact h
          refine xk_callX [] (f := 79) (fi := []) (ca := []) (by kernel_rfl) rfl rfl (by decide) (by simp) (fun v w w' => ∃ l A' c', numsF (args.take 3) = some l ∧ v = .slice A' l.length c' ∧ SlS (fresh w w') 1 A' l.length (intCells l)) (numsF (args.take 3) = none) (fun w1 st => toInts_x (args.take 3) Ah 3 ca w1 (hSh.le (st.le (by simp))) (by simp; omega) (by omega) hst) (fun hp T u => by
            (repeat (first | refine XK.thenP ?_ | refine XK.inP ?_))
            exact XK.retP fun w1 st => .inr ⟨hk4t.trans (by rw [hp]; rfl), ⟨T, u, rfl⟩, (st.turns hF (by simp [hp0]) (i := 0) rfl).imp fun _ h => h.2⟩) ?_
          rintro _ w1 q1 ⟨l3, A5, c5, hl3', rfl, hS5⟩ hq1 _ hF1
          have hS5 := hS5.le hq1
          obtain ⟨x, y, z, rfl⟩ := len3 (show l3.length = 3 by rw [numsF_len _ _ hl3']; simp; omega)
          rw [hl3'] at hk4t
          obtain ⟨b5, off5, rfl, hz5, hc5⟩ := hS5.2 (by simp)
          obtain ⟨Ad, hAd, hrun⟩ := sliceL_all (P := Tryz.prog) (t := 42) (el := 9) (sz := 1) (n := args.length) (c := ca) (k := 4) (A := some ⟨ba, offa, none⟩) (kd := .i64) (by kernel_rfl) (by kernel_rfl) h4 hcal
          have hSd : SlS p0 1 Ad (args.length - 4) (strCells (args.drop 4)) := by
            have h := SlS.dropP (k := 4) hS2 h4 hAd
            rw [strCells_drop] at h
            exact h
          refine xk_assign rfl (by decide) ?_
          refine XK.nilN ?_

          refine XK.draw1 [q1, p0] [HP.blk g 28 [.slice A1 n1 c1, .slice A2 n2 c2, .slice A3 n3 c3, .slice A4 n4 c4], HP.many [HP.emp, HP.own 55 6 (.slice A1 n1 c1) n1 L1, HP.own 69 3 (.slice A2 n2 c2) n2 L2, HP.own 71 1 (.slice A3 n3 c3) n3 L3, HP.emp, HP.many rg, HP.pic (picY cs ds) (picY_mono cs ds)]] 24 (by kernel_rfl) (by kernel_rfl) ?_
          refine XA.dA 0 rfl rfl rfl (does_move rfl) ?_
          refine XA.dA 1 rfl rfl rfl (does_move rfl) ?_
          refine XA.dA 2 rfl rfl rfl (does_nilC rfl) ?_
          refine XA.dA 3 rfl rfl rfl (does_field (off := 3) (by kernel_rfl) rfl) ?_
          refine XA.dA 4 rfl rfl rfl (does_ld rfl) ?_
          refine XA.dA 5 rfl rfl rfl (does_move rfl) ?_
          refine XA.dA 6 rfl rfl rfl (does_at 0 (off5 + 0) (el := 3) (sz := 1) (by kernel_rfl) (by kernel_rfl) rfl rfl rfl (by simp) (by omega)) ?_
          refine XA.dA 7 rfl rfl rfl (does_load (by kernel_rfl) rfl (Rd.ro (p := q1) (by simp) hz5 (hc5 0 _ rfl))) ?_
          refine XA.dA 8 rfl rfl rfl (does_move rfl) ?_
          refine XA.dA 9 rfl rfl rfl (does_at 1 (off5 + 1) (el := 3) (sz := 1) (by kernel_rfl) (by kernel_rfl) rfl rfl rfl (by simp) (by omega)) ?_
          refine XA.dA 10 rfl rfl rfl (does_load (by kernel_rfl) rfl (Rd.ro (p := q1) (by simp) hz5 (hc5 1 _ rfl))) ?_
          refine XA.dA 11 rfl rfl rfl (does_move rfl) ?_
          refine XA.dA 12 rfl rfl rfl (does_at 2 (off5 + 2) (el := 3) (sz := 1) (by kernel_rfl) (by kernel_rfl) rfl rfl rfl (by simp) (by omega)) ?_
          refine XA.dA 13 rfl rfl rfl (does_load (by kernel_rfl) rfl (Rd.ro (p := q1) (by simp) hz5 (hc5 2 _ rfl))) ?_
          refine XA.dA 14 rfl rfl rfl (does_move rfl) ?_
          refine XA.dA 15 rfl rfl rfl (does_at 3 (offa + 3) (el := 9) (sz := 1) (by kernel_rfl) (by kernel_rfl) rfl rfl rfl (by omega) (by omega)) ?_
          refine XA.dA 16 rfl rfl rfl (does_load (by kernel_rfl) rfl (Rd.ro (p := p0) (by simp) hza (hcA 3 _ (strCells_at hsm)))) ?_
          refine XA.dA 18 rfl rfl rfl (does_move rfl) ?_
          refine XA.dA 19 rfl rfl rfl (does_sliceL rfl rfl hrun) ?_
          refine XA.next 17 rfl (by kernel_rfl) ?_
          refine xk_callXV (f := 80) (fi := []) (ca := []) (by kernel_rfl) rfl rfl (by decide) (fun v => ∃ n : Nat, w32F sm = some n ∧ v = .int .u32 (n : Int)) (w32F sm = none) (fun w1 st => toWord32_x sm (hsr sm (List.mem_of_getElem? hsm)) w1) (fun hp T u => by
            (repeat (first | refine XK.thenP ?_ | refine XK.inP ?_))
            exact XK.retP fun w1 st => .inr ⟨hk4t.trans (by rw [hp]; rfl), ⟨T, u, rfl⟩, (st.turns hF (by simp [hp0]) (i := 0) rfl).imp fun _ h => h.2⟩) ?_
          rintro _ ⟨nm, hnm, rfl⟩
          rw [hnm] at hk4t
          refine XA.bk ?_
          refine XA.next 20 rfl (by kernel_rfl) ?_
          refine xk_callX [] (f := 79) (fi := []) (ca := []) (by kernel_rfl) rfl rfl (by decide) (by simp) (fun v w w' => ∃ l A' c', numsF (args.drop 4) = some l ∧ v = .slice A' l.length c' ∧ SlS (fresh w w') 1 A' l.length (intCells l)) (numsF (args.drop 4) = none) (fun w1 st => toInts_x (args.drop 4) Ad (args.length - 4) (ca - 4) w1 (hSd.le (st.le (by simp))) (by simp) (by omega) hsd) (fun hp T u => by
            (repeat (first | refine XK.thenP ?_ | refine XK.inP ?_))
            exact XK.retP fun w1 st => .inr ⟨hk4t.trans (by rw [hp]; rfl), ⟨T, u, rfl⟩, (st.turns hF (by simp [hp0]) (i := 0) rfl).imp fun _ h => h.2⟩) ?_
          rintro _ w2 q2 ⟨ln, A6, c6, hln, rfl, hS6⟩ hq2 _ hF2
          have hS6 := hS6.le hq2
          have hF2 := hF2 (by simp)
          rw [hln] at hk4t
          have htk : takeF s (k0 :: args) = some ⟨s.clocks, s.domains, s.resets, s.devs ++ [⟨x, y, z, (nm : Int), [], ln⟩]⟩ := hk4t
          refine XA.bk ?_
          refine XA.dA 21 rfl rfl rfl (does_buildS (zs := [.int .i64 0, .int .i64 0, .int .i64 0, .int .u32 0, .slice none 0 0, .slice none 0 0]) (L := [(0, 1), (1, 1), (2, 1), (3, 1), (4, 1), (5, 1)]) (zeroB_of (by kernel_rfl)) (by kernel_rfl) rfl (by simp [fillL, setN, Value.cells]; rfl)) ?_
          refine XA.next 22 rfl (by kernel_rfl) ?_
          refine xk_slice (el := 51) (sz := 6) (zs := [.int .i64 0, .int .i64 0, .int .i64 0, .int .u32 0, .slice none 0 0, .slice none 0 0]) (by kernel_rfl) (zeroB_of (by kernel_rfl)) (by kernel_rfl) rfl (by decide) (by decide) rfl (by simp [fillL, setN, Value.cells, List.range_succ, List.set]; rfl) (by decide) fun g4 => ?_
          refine XA.bk ?_
          refine XA.next 23 rfl (by kernel_rfl) ?_
          refine xk_appendT 1 6 80 1 (n' := n4 + 1) (el := 51) (by kernel_rfl) (by kernel_rfl) (by decide) rfl rfl rfl (sl_blk 0 rfl rfl) (by simp [Value.oneCell']) rfl (by omega) (by omega) (by decide) fun An cn => ?_
          dsimp only [List.set]
          refine XA.bk ?_
          refine XA.next 24 rfl (by kernel_rfl) ?_
          refine xk_nilC rfl (by decide) ?_
          refine XA.bt ?_
          refine XA.next 25 rfl (by kernel_rfl) ?_
          refine xk_field (off := 3) (by kernel_rfl) rfl (by decide) ?_
          refine XA.bt ?_
          refine XA.next 26 rfl (by kernel_rfl) ?_
          refine xk_st rfl rfl ?_; dsimp only [List.set]
          refine XA.bt ?_
          refine XA.done (by kernel_rfl) ?_
          refine XK.norm ?_
          refine XK.weak [1, 2, 3] rfl (by decide) (R' := [q2, p0]) (by simp) ?_
          refine XK.ownP (Φ := sls1 A6 ln) (hm := sls1_mono A6 ln) hF2 hR0 hS6 ?_
          refine XK.take 3 6 rfl rfl ?_
          dsimp only [List.set]
          refine XK.joinPic (X := picY cs (ds ++ [(⟨x, y, z, (nm : Int), [], ln⟩, (none, 0), (A6, c6))])) (h3 := picY_mono _ _) (fun p h1 h2 => ⟨h1.1, fun x hx => by
            rcases List.mem_append.1 hx with hx | hx
            · exact h1.2 x hx
            · simp at hx; subst hx; exact h2⟩) ?_
          refine XK.give 2 6 rfl rfl ?_
          dsimp only [List.set]
          refine XK.take 2 5 rfl rfl ?_
          dsimp only [List.set]
          refine XK.nilrow 57 2 ?_
          refine XK.push ?_
          refine XK.give 2 5 rfl rfl ?_
          dsimp only [List.set]
          refine XK.give 1 4 rfl rfl ?_
          dsimp only [List.set]
          refine XK.give 0 0 rfl rfl ?_
          dsimp only [List.set]
          refine XK.toEx 0 (f := fun X0 : {X0 : SocY // X0.of ⟨s.clocks, s.domains, s.resets, s.devs ++ [⟨x, y, z, (nm : Int), [], ln⟩]⟩} => X0.1.hp g) ⟨⟨cs, dm, rs, ds ++ [(⟨x, y, z, (nm : Int), [], ln⟩, (none, 0), (A6, c6))], A1, n1, c1, A2, n2, c2, A3, n3, c3, An, n4 + 1, cn, L1, L2, L3, L4 ++ devRow (⟨x, y, z, (nm : Int), [], ln⟩, (none, 0), (A6, c6)), rg ++ [regOwn (⟨x, y, z, (nm : Int), [], ln⟩, (none, 0), (A6, c6))]⟩, ⟨e1, e2, e3, by simp [e4], e5, e6, e7, by simp [e8], e9, e10, e11, by simp [e12], by simp [e13]⟩⟩ rfl ?_
          exact XK.ret0 (.inr rfl) rfl fun w1 st => .inl ⟨rfl, by rw [htk]; rfl, by rw [htk]; exact st.turns hF (by simp [hp0]) (i := 0) rfl⟩
        ·
          refine XK.seq ?_

          refine XK.region ?_
          refine xk_eqlStr (by kernel_rfl) rfl rfl (by decide) ?_
          refine xk_assign rfl (by decide) ?_
          refine XK.nilN ?_
          refine XK.if_ rfl (fun hk5 => ?_) (fun hk5 => ?_)
          have hk5t : takeF s (k0 :: args) = regF s args := (if_neg hk1).trans ((if_neg hk2).trans ((if_neg hk3).trans ((if_neg hk4).trans (if_pos hk5))))
          ·
            refine XK.seq ?_

            refine XK.region ?_
            refine xk_move rfl (by decide) ?_
            refine xk_len (el := 9) (by kernel_rfl) rfl (by decide) ?_
            refine xk_eql rfl rfl (by decide) ?_
            refine xk_move rfl (by decide) ?_
            refine xk_split (t := 121) rfl (fun hg => ?_) (fun hg => ?_)
            ·
              refine xk_guardT rfl rfl ?_; refine xk_move rfl (by decide) ?_
              refine xk_guardT rfl rfl ?_; refine xk_nilC rfl (by decide) ?_
              refine xk_guardT rfl rfl ?_; refine xk_field (off := 3) (by kernel_rfl) rfl (by decide) ?_
              refine xk_guardT rfl rfl ?_; refine xk_ld rfl ?_
              refine xk_guardT rfl rfl ?_; refine xk_len (el := 51) (by kernel_rfl) rfl (by decide) ?_
              refine xk_guardT rfl rfl ?_; refine xk_gtr rfl rfl (by decide) ?_
              (first | refine xk_pickT rfl rfl (by decide) ?_ | refine xk_pickF rfl rfl (by decide) ?_)
              refine xk_callXV (f := 76) (fi := []) (ca := []) (by kernel_rfl) rfl rfl (by decide) (fun v => ((0 : Int) < n4) ∧ v = .tuple #[]) (¬ ((0 : Int) < n4)) (fun w1 st => must_x ((0 : Int) < n4) w1) (fun hp T u => by
                (repeat (first | refine XK.thenP ?_ | refine XK.inP ?_))
                exact XK.retP fun w1 st => .inr ⟨hk5t.trans (by
                  obtain ⟨sa, sb, rfl⟩ := len2 (show args.length = 2 by omega)
                  rw [regF, List.getElem?_eq_none (by omega)]), ⟨T, u, rfl⟩, (st.turns hF (by simp [hp0]) (i := 0) rfl).imp fun _ h => h.2⟩) ?_
              rintro _ ⟨hm, rfl⟩
              obtain ⟨sa, sb, rfl⟩ := len2 (show args.length = 2 by omega)
              obtain ⟨ba, offa, rfl, hza, hcA⟩ := hS2.2 (by simp)
              obtain ⟨X, hX⟩ : ∃ X, ds[n4 - 1]? = some X := ⟨_, List.getElem?_eq_getElem (by omega)⟩
              have hXs : s.devs[s.devs.length - 1]? = some X.1 := by rw [← hl4, ← e4, List.getElem?_map, hX]; rfl
              rw [regF, hXs] at hk5t
              have hXr : X.1.regs.length ≤ 8000 := hfew.regs X.1 (List.mem_of_getElem? hXs)
              obtain ⟨XD, ⟨X5, X5c⟩, ⟨X6, X6c⟩⟩ := X
              dsimp only at hk5t hXr
              refine XK.take 1 4 rfl rfl ?_
              dsimp only [List.set]
              refine XK.ownHead 0 rfl (by omega) fun gd hgd => ?_
              subst hgd
              refine XK.openOwn 0 rfl fun dc hd1 hd2 hd3 hd4 => ?_
              dsimp only [List.set]
              have hdr : dc[(n4 - 1) * 6 + 4]? = some (.slice X5 XD.regs.length X5c) := by
                have h := flat_get devRow 6 ds (fun y _ => devRow_len y) (n4 - 1) 4 _ hX (by omega)
                rw [← e12, ← hd2, List.getElem?_take, if_pos (by omega)] at h
                exact h
              refine XK.nilN ?_
              refine XK.seq ?_

              refine XK.draw1 [p0] [HP.blk gd 51 dc, HP.blk g 28 [.slice A1 n1 c1, .slice A2 n2 c2, .slice A3 n3 c3, .slice (some ⟨gd, 0, none⟩) n4 c4], HP.many [HP.emp, HP.own 55 6 (.slice A1 n1 c1) n1 L1, HP.own 69 3 (.slice A2 n2 c2) n2 L2, HP.own 71 1 (.slice A3 n3 c3) n3 L3, HP.emp, HP.many rg, HP.pic (picY cs ds) (picY_mono cs ds)]] 10 (by kernel_rfl) (by kernel_rfl) ?_
              refine XA.dA 0 rfl rfl rfl (does_move rfl) ?_
              refine XA.dA 1 rfl rfl rfl (does_nilC rfl) ?_
              refine XA.dA 2 rfl rfl rfl (does_field (off := 3) (by kernel_rfl) rfl) ?_
              refine XA.dA 3 rfl rfl rfl (does_ld rfl) ?_
              refine XA.dA 4 rfl rfl rfl (does_move rfl) ?_
              refine XA.dA 5 rfl rfl rfl (does_nilC rfl) ?_
              refine XA.dA 6 rfl rfl rfl (does_field (off := 3) (by kernel_rfl) rfl) ?_
              refine XA.dA 7 rfl rfl rfl (does_ld rfl) ?_
              refine XA.dA 8 rfl rfl rfl (does_len (el := 51) (by kernel_rfl) rfl) ?_
              refine XA.dA 9 rfl rfl rfl (does_sub rfl rfl (wrap_in (by omega))) ?_
              refine XA.next 10 rfl (by kernel_rfl) ?_
              refine xk_at (n4 - 1) ((n4 - 1) * 6) (el := 51) (sz := 6) (by kernel_rfl) (by kernel_rfl) rfl rfl (by omega) (by omega) (by omega) (by decide) ?_
              refine XA.bt ?_
              refine XA.next 11 rfl (by kernel_rfl) ?_
              refine xk_assign rfl (by decide) ?_
              refine XA.bt ?_
              refine XA.done (by kernel_rfl) ?_
              refine XK.norm ?_
              refine XK.take 2 5 rfl rfl ?_
              dsimp only [List.set]
              refine XK.take 0 (n4 - 1) (p := regOwn (XD, (X5, X5c), (X6, X6c))) rfl (by rw [e13, List.getElem?_map, hX]; rfl) ?_
              dsimp only [List.set, regOwn]

              refine XK.draw1 [p0] [HP.many (rg.set (n4 - 1) HP.emp), HP.blk gd 51 dc, HP.blk g 28 [.slice A1 n1 c1, .slice A2 n2 c2, .slice A3 n3 c3, .slice (some ⟨gd, 0, none⟩) n4 c4], HP.many [HP.emp, HP.own 55 6 (.slice A1 n1 c1) n1 L1, HP.own 69 3 (.slice A2 n2 c2) n2 L2, HP.own 71 1 (.slice A3 n3 c3) n3 L3, HP.emp, HP.emp, HP.pic (picY cs ds) (picY_mono cs ds)]] 16 (by kernel_rfl) (by kernel_rfl) ?_
              refine XA.dA 0 rfl rfl rfl (does_move rfl) ?_
              refine XA.dA 1 rfl rfl rfl (does_move rfl) ?_
              refine XA.dA 2 rfl rfl rfl (does_nilC rfl) ?_
              refine XA.dA 3 rfl rfl rfl (does_field (off := 4) (by kernel_rfl) rfl) ?_
              refine XA.dA 4 rfl rfl rfl (does_load (by kernel_rfl) rfl (Rd.blk 1 rfl hdr)) ?_
              refine XA.dA 5 rfl rfl rfl (does_move rfl) ?_
              refine XA.dA 6 rfl rfl rfl (does_at 0 (offa + 0) (el := 9) (sz := 1) (by kernel_rfl) (by kernel_rfl) rfl rfl rfl (by simp) (by omega)) ?_
              refine XA.dA 7 rfl rfl rfl (does_load (by kernel_rfl) rfl (Rd.ro (p := p0) (by simp) hza (hcA 0 _ rfl))) ?_
              refine XA.dA 9 rfl rfl rfl (does_move rfl) ?_
              refine XA.dA 10 rfl rfl rfl (does_at 1 (offa + 1) (el := 9) (sz := 1) (by kernel_rfl) (by kernel_rfl) rfl rfl rfl (by simp) (by omega)) ?_
              refine XA.dA 11 rfl rfl rfl (does_load (by kernel_rfl) rfl (Rd.ro (p := p0) (by simp) hza (hcA 1 _ rfl))) ?_
              refine XA.next 8 rfl (by kernel_rfl) ?_
              refine xk_callXV (f := 80) (fi := []) (ca := []) (by kernel_rfl) rfl rfl (by decide) (fun v => ∃ n : Nat, w32F sa = some n ∧ v = .int .u32 (n : Int)) (w32F sa = none) (fun w1 st => toWord32_x sa (hsr sa (by simp)) w1) (fun hp T u => by
                (repeat (first | refine XK.thenP ?_ | refine XK.inP ?_))
                exact XK.retP fun w1 st => .inr ⟨hk5t.trans (by rw [hp]), ⟨T, u, rfl⟩, (st.turns hF (by simp [hp0]) (i := 0) rfl).imp fun _ h => h.2⟩) ?_
              rintro _ ⟨nr, hnw, rfl⟩
              refine XA.bk ?_
              refine XA.next 12 rfl (by kernel_rfl) ?_
              refine xk_callXV (f := 78) (fi := []) (ca := []) (by kernel_rfl) rfl rfl (by decide) (fun v => ∃ b : Bool, keptF sb = some b ∧ v = .bool b) (keptF sb = none) (fun w1 st => toKept_x sb w1) (fun hp T u => by
                (repeat (first | refine XK.thenP ?_ | refine XK.inP ?_))
                exact XK.retP fun w1 st => .inr ⟨hk5t.trans (by rw [hnw, hp]), ⟨T, u, rfl⟩, (st.turns hF (by simp [hp0]) (i := 0) rfl).imp fun _ h => h.2⟩) ?_
              rintro _ ⟨kp, hkp, rfl⟩
              have htk : takeF s (k0 :: [sa, sb]) = some ⟨s.clocks, s.domains, s.resets, s.devs.set (s.devs.length - 1) ⟨XD.clock, XD.domain, XD.reset, XD.clamp, XD.regs ++ [⟨(nr : Int), kp⟩], XD.needs⟩⟩ := hk5t.trans (by rw [hnw, hkp])
              refine XA.bk ?_
              refine XA.dA 13 rfl rfl rfl (does_buildS (zs := [.int .u32 0, .bool false]) (L := [(0, 1), (1, 1)]) (zeroB_of (by kernel_rfl)) (by kernel_rfl) rfl (by simp [fillL, setN, Value.cells]; rfl)) ?_
              refine XA.next 14 rfl (by kernel_rfl) ?_
              refine xk_slice (el := 57) (sz := 2) (zs := [.int .u32 0, .bool false]) (by kernel_rfl) (zeroB_of (by kernel_rfl)) (by kernel_rfl) rfl (by decide) (by decide) rfl (by simp [fillL, setN, Value.cells, List.range_succ, List.set]; rfl) (by decide) fun g5 => ?_
              refine XA.bk ?_
              refine XA.next 15 rfl (by kernel_rfl) ?_
              refine xk_appendT 1 2 8 1 (n' := XD.regs.length + 1) (el := 57) (by kernel_rfl) (by kernel_rfl) (by decide) rfl rfl rfl (sl_blk 0 rfl rfl) (by simp [Value.oneCell']) rfl (by omega) (by omega) (by decide) fun An cn => ?_
              dsimp only [List.set]
              refine XA.bk ?_
              refine XA.next 16 rfl (by kernel_rfl) ?_
              refine xk_nilC rfl (by decide) ?_
              refine XA.bt ?_
              refine XA.next 17 rfl (by kernel_rfl) ?_
              refine xk_field (off := 4) (by kernel_rfl) rfl (by decide) ?_
              refine XA.bt ?_
              refine XA.next 18 rfl (by kernel_rfl) ?_
              refine xk_store 3 rfl (by kernel_rfl) rfl rfl rfl (by omega) ?_
              dsimp only [List.set]
              refine XA.bt ?_
              refine XA.done (by kernel_rfl) ?_
              refine XK.norm ?_
              refine XK.weak [1, 2, 3, 4, 5] rfl (by decide) (fun _ h => h) ?_
              refine XK.closeOwn 2 (n := n4) (c := c4) (sz := 6) (el := 51) (xs := (ds.set (n4 - 1) (⟨XD.clock, XD.domain, XD.reset, XD.clamp, XD.regs ++ [⟨(nr : Int), kp⟩], XD.needs⟩, (An, cn), (X6, X6c))).flatMap devRow) rfl (by rw [List.length_set]; exact hd1) (by rw [List.take_set, hd2, e12]; exact flat_set devRow 6 4 _ (by omega) ds (n4 - 1) _ (fun y _ => devRow_len y) hX (by simp [devRow])) hd3 hd4 ?_
              dsimp only [List.set]
              refine XK.give 0 (n4 - 1) rfl (by rw [List.getElem?_set_self (by rw [e13]; simp; omega)]) ?_
              dsimp only [List.set]
              rw [List.set_set]
              refine XK.give 2 5 rfl rfl ?_
              dsimp only [List.set]
              refine XK.take 2 6 rfl rfl ?_
              dsimp only [List.set]
              refine XK.reuse 0 (q := HP.pic (picY cs (ds.set (n4 - 1) (⟨XD.clock, XD.domain, XD.reset, XD.clamp, XD.regs ++ [⟨(nr : Int), kp⟩], XD.needs⟩, (An, cn), (X6, X6c)))) (picY_mono _ _)) rfl (fun F w h => ⟨h.1, fun x hx => by
                rcases List.mem_or_eq_of_mem_set hx with hx | hx
                · exact h.2 x hx
                · subst hx; exact h.2 (XD, (X5, X5c), (X6, X6c)) (List.mem_of_getElem? hX)⟩) ?_
              dsimp only [List.set]
              refine XK.give 2 6 rfl rfl ?_
              dsimp only [List.set]
              refine XK.give 1 4 rfl rfl ?_
              dsimp only [List.set]
              refine XK.give 0 0 rfl rfl ?_
              dsimp only [List.set]
              refine XK.toEx 0 (f := fun X0 : {X0 : SocY // X0.of ⟨s.clocks, s.domains, s.resets, s.devs.set (s.devs.length - 1) ⟨XD.clock, XD.domain, XD.reset, XD.clamp, XD.regs ++ [⟨(nr : Int), kp⟩], XD.needs⟩⟩} => X0.1.hp g) ⟨⟨cs, dm, rs, ds.set (n4 - 1) (⟨XD.clock, XD.domain, XD.reset, XD.clamp, XD.regs ++ [⟨(nr : Int), kp⟩], XD.needs⟩, (An, cn), (X6, X6c)), A1, n1, c1, A2, n2, c2, A3, n3, c3, some ⟨gd, 0, none⟩, n4, c4, L1, L2, L3, (ds.set (n4 - 1) (⟨XD.clock, XD.domain, XD.reset, XD.clamp, XD.regs ++ [⟨(nr : Int), kp⟩], XD.needs⟩, (An, cn), (X6, X6c))).flatMap devRow, rg.set (n4 - 1) (HP.own 57 2 (.slice An (XD.regs.length + 1) cn) (XD.regs.length + 1) (XD.regs.flatMap Rg.cells ++ [.int .u32 (nr : Int), .bool kp]))⟩, ⟨e1, e2, e3, by rw [List.map_set, e4, ← hl4], e5, e6, e7, by rw [List.length_set]; exact e8, e9, e10, e11, rfl, by rw [e13, List.map_set]; simp [regOwn, Rg.cells]⟩⟩ rfl ?_
              exact XK.ret0 (.inr rfl) rfl fun w1 st => .inl ⟨rfl, by rw [htk]; rfl, by rw [htk]; exact st.turns hF (by simp [hp0]) (i := 0) rfl⟩
            ·
              refine xk_guardF rfl rfl rfl (by decide) ?_
              refine xk_guardF rfl rfl rfl (by decide) ?_
              refine xk_guardF rfl rfl rfl (by decide) ?_
              refine xk_guardF rfl rfl rfl (by decide) ?_
              refine xk_guardF rfl rfl rfl (by decide) ?_
              refine xk_guardF rfl rfl rfl (by decide) ?_
              (first | refine xk_pickT rfl rfl (by decide) ?_ | refine xk_pickF rfl rfl (by decide) ?_)
              refine xk_callXV (f := 76) (fi := []) (ca := []) (by kernel_rfl) rfl rfl (by decide) (fun v => (False) ∧ v = .tuple #[]) (¬ (False)) (fun w1 st => must_x (False) w1) (fun hp T u => by
                (repeat (first | refine XK.thenP ?_ | refine XK.inP ?_))
                exact XK.retP fun w1 st => .inr ⟨hk5t.trans (by
                  have h2 : args.length ≠ 2 := by omega
                  match args, h2 with
                  | [], _ => rfl
                  | [a], _ => rfl
                  | [a, b], h2 => simp at h2
                  | a :: b :: c :: r, _ => rfl), ⟨T, u, rfl⟩, (st.turns hF (by simp [hp0]) (i := 0) rfl).imp fun _ h => h.2⟩) ?_
              rintro _ ⟨hm, rfl⟩
              exact hm.elim

          ·

            refine XK.region ?_
            refine xk_buildS (zs := []) (L := []) (zeroB_of (by kernel_rfl)) (by kernel_rfl) rfl (by simp [fillL, setN, Value.cells]; rfl) (by decide) ?_
            refine xk_iface (T := 59) (by kernel_rfl) rfl (by decide) ?_
            refine xk_panic rfl ?_
            (repeat (first | refine XK.thenP ?_ | refine XK.inP ?_))
            exact XK.retP fun w1 st => .inr ⟨(if_neg hk1).trans ((if_neg hk2).trans ((if_neg hk3).trans ((if_neg hk4).trans (if_neg hk5)))), ⟨_, _, rfl⟩, (st.turns hF (by simp [hp0]) (i := 0) rfl).imp fun _ h => h.2⟩

end Go.Proofs.YtgopaoidgcgalaaGreatDoor
/- Texts in plain words: lines, words, and what they say of a chip. -/
namespace Go.Proofs.YtgopaoidgcgalaaGreatDoor
set_option linter.all false
open Go.RowKit
def cutC (c : UInt8) : List UInt8 → List UInt8 × List UInt8 × Bool
  | [] => ([], [], false)
  | b :: r => if b = c then ([], r, true) else (b :: (cutC c r).1, (cutC c r).2.1, (cutC c r).2.2)
def splitC (c : UInt8) : List UInt8 → List (List UInt8)
  | [] => [[]]
  | b :: r => if b = c then [] :: splitC c r else match splitC c r with
    | [] => [[b]]
    | x :: xs => (b :: x) :: xs
theorem splitC_ne (c : UInt8) (l : List UInt8) : splitC c l ≠ [] := by
  cases l with
  | nil => simp [splitC]
  | cons b r =>
    unfold splitC
    split
    · simp
    · split <;> simp
theorem index_cases (c : UInt8) : ∀ l : List UInt8, (Lib.index l [c] = -1 ∧ cutC c l = (l, [], false) ∧ splitC c l = [l]) ∨ ∃ i : Nat, Lib.index l [c] = i ∧ i < l.length ∧ cutC c l = (l.take i, l.drop (i + 1), true) ∧ splitC c l = l.take i :: splitC c (l.drop (i + 1))
  | [] => .inl ⟨rfl, rfl, rfl⟩
  | b :: r => by
    rw [Lib.index_one]
    unfold Lib.indexByte
    by_cases hb : b = c
    · subst hb
      exact .inr ⟨0, by simp, by simp, by simp [cutC], by simp [splitC]⟩
    · have hbb : (b == c) = false := by simpa using hb
      rw [hbb]
      rcases index_cases c r with ⟨h1, h2, h3⟩ | ⟨i, h1, h2, h3, h4⟩
      · rw [Lib.index_one] at h1
        exact .inl ⟨by simp [h1], by simp [cutC, hb, h2], by simp [splitC, hb, h3]⟩
      · rw [Lib.index_one] at h1
        refine .inr ⟨i + 1, ?_, by simpa using h2, by simp [cutC, hb, h3], by simp [splitC, hb, h4]⟩
        have : ((i : Int) == -1) = false := by rw [beq_eq_false_iff_ne]; omega
        simp [h1, this]
theorem lib_cut (c : UInt8) (l : List UInt8) : Lib.cut l [c] = cutC c l := by
  rcases index_cases c l with ⟨h1, h2, _⟩ | ⟨i, h1, _, h3, _⟩
  · rw [Lib.cut, h1, h2]; rfl
  · rw [Lib.cut, h1, h3, if_pos (by omega)]; simp
theorem lib_split (c : UInt8) : ∀ (k : Nat) (l : List UInt8), Lib.count l [c] ≤ k → Lib.splitK [c] 0 k l = splitC c l
  | 0, l, h => by
    rcases index_cases c l with ⟨h1, _, h3⟩ | ⟨i, h1, _, _, _⟩
    · rw [h3]; rfl
    · have := Lib.count_hit (sub := [c]) (by simp) h1
      omega
  | k + 1, l, h => by
    rcases index_cases c l with ⟨h1, _, h3⟩ | ⟨i, h1, _, _, h4⟩
    · rw [h3, Lib.splitK, h1]; rfl
    · have h5 := Lib.count_hit (sub := [c]) (by simp) h1
      have : ((i : Int) == -1) = false := by rw [beq_eq_false_iff_ne]; omega
      rw [h4, Lib.splitK, h1, this]
      simp only [Bool.false_eq_true, if_false, Int.toNat_natCast, List.length_singleton, Nat.add_zero]
      rw [lib_split c k _ (by simp only [List.length_singleton] at h5; omega)]
def strOf (l : List UInt8) : ByteArray := ⟨l.toArray⟩
theorem strOf_data (s : ByteArray) : strOf s.data.toList = s := by simp [strOf]
theorem strOf_size (l : List UInt8) : (strOf l).size = l.length := by simp [strOf, ByteArray.size]
def wordsF (s : List UInt8) : List ByteArray := (splitC 32 s).map strOf
theorem wordsB (s : ByteArray) : Lib.splitB ⟨#[32]⟩ 0 (Lib.countB s ⟨#[32]⟩) s = wordsF s.data.toList := by
  have h := Lib.splitB_data ⟨#[32]⟩ 0 (Lib.countB s ⟨#[32]⟩) s
  rw [show (ByteArray.mk #[32]).data.toList = [32] from rfl, lib_split 32 _ _ (Nat.le_of_eq rfl)] at h
  rw [wordsF, ← h, List.map_map]
  conv => lhs; rw [← List.map_id (Lib.splitB _ _ _ _)]
  congr 1
  all_goals first | (funext x; exact (strOf_data x).symm) | skip
theorem splitC_len (c : UInt8) : ∀ l : List UInt8, (splitC c l).length ≤ l.length + 1 ∧ ∀ x ∈ splitC c l, x.length ≤ l.length
  | [] => by simp [splitC]
  | b :: r => by
    have ih := splitC_len c r
    unfold splitC
    split
    · exact ⟨by simpa using ih.1, fun x hx => by
        rcases List.mem_cons.1 hx with rfl | hx
        · simp
        · have := ih.2 x hx; simp; omega⟩
    · cases hs : splitC c r with
      | nil => exact absurd hs (splitC_ne c r)
      | cons y ys =>
        rw [hs] at ih
        refine ⟨by have := ih.1; simp at this ⊢; omega, fun x hx => ?_⟩
        rcases List.mem_cons.1 hx with rfl | hx
        · have := ih.2 y (by simp); simp; omega
        · have := ih.2 x (by simp [hx]); simp; omega
/-- the lines of a text; none: the last one does not end -/
def linesF : List UInt8 → List UInt8 → Option (List (List UInt8))
  | acc, [] => if acc.isEmpty then some [] else none
  | acc, b :: r => if b = 10 then (linesF [] r).map (acc :: ·) else linesF (acc ++ [b]) r
theorem linesF_acc : ∀ (l acc : List UInt8), linesF acc l = if (cutC 10 l).2.2 then (linesF [] (cutC 10 l).2.1).map ((acc ++ (cutC 10 l).1) :: ·) else if acc.isEmpty && l.isEmpty then some [] else none
  | [], acc => by unfold linesF cutC; cases acc <;> simp
  | b :: r, acc => by
    show (if b = 10 then (linesF [] r).map (acc :: ·) else linesF (acc ++ [b]) r) = _
    by_cases hb : b = 10
    · rw [if_pos hb, cutC, if_pos hb]; simp
    · rw [if_neg hb, cutC, if_neg hb, linesF_acc r (acc ++ [b])]
      cases h : (cutC 10 r).2.2 <;> simp
theorem linesF_cut (l : List UInt8) (hl : l ≠ []) : linesF [] l = if (cutC 10 l).2.2 then (linesF [] (cutC 10 l).2.1).map ((cutC 10 l).1 :: ·) else none := by
  rw [linesF_acc]
  cases l with
  | nil => exact absurd rfl hl
  | cons b r => simp
theorem cutC_len (c : UInt8) : ∀ l : List UInt8, (cutC c l).2.2 = true → (cutC c l).1.length + (cutC c l).2.1.length + 1 = l.length
  | [], h => by simp [cutC] at h
  | b :: r, h => by
    unfold cutC at h ⊢
    split
    · simp
    · rename_i hb
      rw [if_neg hb] at h
      have := cutC_len c r h
      simp; omega
/-- all lines are taken -/
def takeAll (s : Soc) : List (List UInt8) → Option Soc
  | [] => some s
  | l :: ls => (takeF s (wordsF l)).bind fun s' => takeAll s' ls
def contF (s : Soc) (l : List UInt8) : Option Soc := (linesF [] l).bind (takeAll s)
theorem contF_nil (s : Soc) : contF s [] = some s := rfl
theorem contF_bad {s : Soc} {l : List UInt8} (hl : l ≠ []) (h : (cutC 10 l).2.2 = false) : contF s l = none := by
  rw [contF, linesF_cut l hl, h]; rfl
theorem contF_line {s : Soc} {l : List UInt8} (hl : l ≠ []) (h : (cutC 10 l).2.2 = true) : contF s l = (takeF s (wordsF (cutC 10 l).1)).bind fun s' => contF s' (cutC 10 l).2.1 := by
  rw [contF, linesF_cut l hl, h, if_pos rfl]
  cases hf : linesF [] (cutC 10 l).2.1 with
  | none =>
    simp only [Option.map_none, Option.bind_none, contF, hf]
    cases takeF s (wordsF (cutC 10 l).1) <;> rfl
  | some ls =>
    simp only [Option.map_some, Option.bind_some, takeAll, contF, hf]
def soc0 : Soc := ⟨[], [], [], []⟩
/-- the chip that a text describes, by its lines -/
def readF (t : ByteArray) : Option Soc := if 8000 < t.size then none else contF soc0 t.data.toList
/-- what a text says: an errno, a chip -/
def parseF (t : ByteArray) : Int × Soc := match readF t with
  | none => (2, soc0)
  | some s => if checkS s = 0 then (0, s) else (checkS s, soc0)
theorem few0 : soc0.few 0 := ⟨by simp [soc0], by simp [soc0], by simp [soc0], by simp [soc0], fun d hd => by simp [soc0] at hd⟩
theorem Soc.few.le {s : Soc} {k m : Nat} (h : s.few k) (hkm : k ≤ m) : s.few m := ⟨Nat.le_trans h.clocks hkm, Nat.le_trans h.domains hkm, Nat.le_trans h.resets hkm, Nat.le_trans h.devs hkm, fun d hd => Nat.le_trans (h.regs d hd) hkm⟩
theorem devF_regs {args : List ByteArray} {d : Dev} (h : devF args = some d) : d.regs = [] := by
  unfold devF at h
  split at h
  · split at h
    · cases h; rfl
    · cases h
  · cases h
theorem takeF_few {s s' : Soc} {ws : List ByteArray} {k : Nat} (h : takeF s ws = some s') (hf : s.few k) : s'.few (k + 1) := by
  have hf' := hf.le (Nat.le_succ k)
  cases ws with
  | nil => cases h
  | cons w args =>
    rw [takeF] at h
    split at h
    · rw [Option.map_eq_some_iff] at h; obtain ⟨c, _, rfl⟩ := h
      exact ⟨by have := hf.clocks; simp; omega, hf'.domains, hf'.resets, hf'.devs, hf'.regs⟩
    · split at h
      · rw [Option.map_eq_some_iff] at h; obtain ⟨c, _, rfl⟩ := h
        exact ⟨hf'.clocks, by have := hf.domains; simp; omega, hf'.resets, hf'.devs, hf'.regs⟩
      · split at h
        · rw [Option.map_eq_some_iff] at h; obtain ⟨c, _, rfl⟩ := h
          exact ⟨hf'.clocks, hf'.domains, by have := hf.resets; simp; omega, hf'.devs, hf'.regs⟩
        · split at h
          · rw [Option.map_eq_some_iff] at h; obtain ⟨d, hd, rfl⟩ := h
            refine ⟨hf'.clocks, hf'.domains, hf'.resets, by have := hf.devs; simp; omega, fun x hx => ?_⟩
            rcases List.mem_append.1 hx with hx | hx
            · exact hf'.regs x hx
            · simp at hx; subst hx; rw [devF_regs hd]; simp
          · split at h
            · unfold regF at h
              split at h
              · split at h
                · rename_i d r kp hd hr hk
                  cases h
                  refine ⟨hf'.clocks, hf'.domains, hf'.resets, by simpa using hf'.devs, fun x hx => ?_⟩
                  rcases List.mem_or_eq_of_mem_set hx with hx | rfl
                  · exact hf'.regs x hx
                  · have := hf.regs d (List.mem_of_getElem? hd); simp; omega
                · cases h
              · cases h
            · cases h
/-- the rows of numbers are short -/
def Soc.short (s : Soc) : Prop := (∀ c ∈ s.clocks, c.src.length ≤ 8000) ∧ ∀ d ∈ s.devs, d.needs.length ≤ 8000
theorem clockF_short {args : List ByteArray} {c : Clk} (h : clockF args = some c) : c.src.length ≤ args.length := by
  unfold clockF at h
  split at h
  · cases h
  · split at h
    · rename_i k r hk
      cases hn : numsF r with
      | none => rw [hn] at h; cases h
      | some l =>
        have hl := numsF_len r l hn
        rw [hn] at h
        unfold clockN at h
        dsimp only at h
        repeat' (split at h)
        all_goals first | (cases h; done) | (cases h; simp; done) | (cases h; simp at hl ⊢; omega)
    · cases h
theorem devF_short {args : List ByteArray} {d : Dev} (h : devF args = some d) : d.needs.length ≤ args.length := by
  unfold devF at h
  split at h
  · split at h
    · rename_i l h1 _ h3
      cases h
      have := numsF_len _ _ h3
      simp at this ⊢; omega
    · cases h
  · cases h
theorem takeF_short {s s' : Soc} {ws : List ByteArray} (h : takeF s ws = some s') (hw : ws.length ≤ 8001) (hs : s.short) : s'.short := by
  cases ws with
  | nil => cases h
  | cons w args =>
    have ha : args.length ≤ 8000 := by simp at hw; omega
    rw [takeF] at h
    split at h
    · rw [Option.map_eq_some_iff] at h; obtain ⟨c, hc, rfl⟩ := h
      refine ⟨fun x hx => ?_, hs.2⟩
      rcases List.mem_append.1 hx with hx | hx
      · exact hs.1 x hx
      · simp at hx; subst hx; exact Nat.le_trans (clockF_short hc) ha
    · split at h
      · rw [Option.map_eq_some_iff] at h; obtain ⟨c, _, rfl⟩ := h; exact hs
      · split at h
        · rw [Option.map_eq_some_iff] at h; obtain ⟨c, _, rfl⟩ := h; exact hs
        · split at h
          · rw [Option.map_eq_some_iff] at h; obtain ⟨d, hd, rfl⟩ := h
            refine ⟨hs.1, fun x hx => ?_⟩
            rcases List.mem_append.1 hx with hx | hx
            · exact hs.2 x hx
            · simp at hx; subst hx; exact Nat.le_trans (devF_short hd) ha
          · split at h
            · unfold regF at h
              split at h
              · split at h
                · rename_i d r kp hd hr hk
                  cases h
                  refine ⟨hs.1, fun x hx => ?_⟩
                  rcases List.mem_or_eq_of_mem_set hx with hx | rfl
                  · exact hs.2 x hx
                  · exact hs.2 d (List.mem_of_getElem? hd)
                · cases h
              · cases h
            · cases h
end Go.Proofs.YtgopaoidgcgalaaGreatDoor
/- Digits, in plain words. -/
namespace Go.Proofs.YtgopaoidgcgalaaGreatDoor
set_option linter.all false
open Go.RowKit
theorem dd_small {n : Nat} (h : n < 10) : Lib.decDigits n = [UInt8.ofNat (48 + n)] := by rw [Lib.decDigits, dif_pos h]
theorem dd_big {n : Nat} (h : ¬ n < 10) : Lib.decDigits n = Lib.decDigits (n / 10) ++ [UInt8.ofNat (48 + n % 10)] := by rw [Lib.decDigits, dif_neg h]
theorem digL_snoc (d : UInt8) : ∀ (l : List UInt8) (a : Nat), digL (l ++ [d]) a = (digL l a).bind fun m => if d.toNat < 48 ∨ 57 < d.toNat then none else some (m * 10 + (d.toNat - 48))
  | [], a => by simp [digL]
  | b :: l, a => by
    rw [List.cons_append, digL, digL]
    split
    · rfl
    · exact digL_snoc d l _
theorem u8_dig {k : Nat} (h : k < 10) : (UInt8.ofNat (48 + k)).toNat = 48 + k := by
  rw [UInt8.toNat_ofNat']
  exact Nat.mod_eq_of_lt (by omega)
theorem dd_ne (n : Nat) : Lib.decDigits n ≠ [] := by
  by_cases h : n < 10
  · rw [dd_small h]; simp
  · rw [dd_big h]; simp
theorem bAt_strOf (l : List UInt8) (i : Nat) : bAt (strOf l) i = l[i]?.getD 0 := by
  by_cases h : i < l.length
  · rw [bAt, ByteArray.getElem?_lt' _ _ (by rw [strOf_size]; exact h), List.getElem?_eq_getElem h]; rfl
  · rw [bAt, ByteArray.getElem?_ge' _ _ (by rw [strOf_size]; exact h), List.getElem?_eq_none (by omega)]
theorem numF_strOf (l : List UInt8) : numF (strOf l) = if l.length < 1 ∨ 15 < l.length ∨ (1 < l.length ∧ ((l[0]?.getD 0).toNat : Int) = 48) then none else digL l 0 := by
  unfold numF
  by_cases h : l.length < 1 ∨ 15 < l.length ∨ (1 < l.length ∧ ((l[0]?.getD 0).toNat : Int) = 48)
  · rw [if_pos h, if_pos (by unfold numBad; rw [strOf_size, bAt_strOf]; exact h)]
  · rw [if_neg h, if_neg (by unfold numBad; rw [strOf_size, bAt_strOf]; exact h)]; rfl
theorem digL_back (n : Nat) : ∀ (l : List UInt8) (x : Nat), l.length = n + 1 → (1 < l.length → (l[0]?.getD 0).toNat ≠ 48) → digL l 0 = some x → l = Lib.decDigits x := by
  induction n with
  | zero =>
    intro l x hl _ hd
    obtain ⟨b, rfl⟩ := len1 hl
    simp only [digL] at hd
    split at hd
    · cases hd
    · cases hd
      rw [dd_small (by omega)]
      congr 1
      apply UInt8.toNat_inj.1
      rw [u8_dig (by omega)]
      omega
  | succ n ih =>
    intro l x hl h0 hd
    obtain ⟨l', d, rfl⟩ : ∃ l' d, l = l' ++ [d] := ⟨l.dropLast, l.getLast (by intro h; subst h; simp at hl), (List.dropLast_concat_getLast _).symm⟩
    have hl' : l'.length = n + 1 := by simpa using hl
    rw [digL_snoc] at hd
    cases hm : digL l' 0 with
    | none => rw [hm] at hd; cases hd
    | some m =>
      rw [hm, Option.bind_some] at hd
      split at hd
      · cases hd
      · cases hd
        have hh : (l'[0]?.getD 0).toNat ≠ 48 := by
          have := h0 (by simp [hl'])
          rw [List.getElem?_append_left (by omega)] at this
          exact this
        have e := ih l' m hl' (fun _ => hh) hm
        have hm0 : 0 < m := by
          rcases Nat.eq_zero_or_pos m with h | h
          · subst h; rw [e, dd_small (by omega)] at hh; simp at hh
          · exact h
        rw [dd_big (by omega), e, show (m * 10 + (d.toNat - 48)) / 10 = m by omega]
        congr 2
        apply UInt8.toNat_inj.1
        rw [u8_dig (by omega)]
        omega
theorem numF_back {s : ByteArray} {x : Nat} (h : numF s = some x) : s = strOf (Lib.decDigits x) := by
  rw [← strOf_data s, numF_strOf] at h
  split at h
  · cases h
  · rename_i hb
    rw [← strOf_data s]
    congr 1
    refine digL_back (s.data.toList.length - 1) _ x (by omega) (fun h1 h2 => hb (.inr (.inr ⟨h1, by omega⟩))) h
end Go.Proofs.YtgopaoidgcgalaaGreatDoor
/- Numbers to words: FormatUint. -/
namespace Go.Proofs.YtgopaoidgcgalaaGreatDoor
set_option linter.all false
open Go.RowKit
abbrev PowTab (w : World) : Prop := Lib.TabIs Tryz.prog w "internal/strconv.uint64pow10" .u64 Lib.pow10Tab
theorem PowTab.go {w w' : World} (h : PowTab w) (hb : Below w.heap.size w w') : PowTab w' := by
  unfold PowTab Lib.TabIs World.var? at *
  cases hg : Tryz.prog.globalNamed "internal/strconv.uint64pow10" with
  | none => simp [hg] at h
  | some g =>
    simp only [hg, Option.bind_some] at h ⊢
    have hlt : g < w.heap.size := by
      rcases Nat.lt_or_ge g w.heap.size with hl | hl
      · exact hl
      · rw [Array.getElem?_eq_none hl] at h; cases h
    rw [hb.block g hlt]
    exact h
section
variable {P : Program} {N : Frm} {w0 : World} {e : Env} {R : List Piece} {H : List HP} {Q : Exit → Act → World → Prop} {ops : Array Oper} {rest : List Oper}
variable {d : Nat} {ty : TypeId} {pos : String} {aft : Array Edge}
end

end Go.Proofs.YtgopaoidgcgalaaGreatDoor
/- Texts as rows of items: what a right line says, and how it is written. -/
namespace Go.Proofs.YtgopaoidgcgalaaGreatDoor
set_option linter.all false
open Go.RowKit
/-! ### words to lines and back -/
def joinW : List (List UInt8) → List UInt8
  | [] => []
  | [w] => w
  | w :: x :: ws => w ++ 32 :: joinW (x :: ws)
theorem joinW_cons (w : List UInt8) {ws : List (List UInt8)} (h : ws ≠ []) : joinW (w :: ws) = w ++ 32 :: joinW ws := by
  cases ws with
  | nil => exact absurd rfl h
  | cons x ws => rfl
theorem splitC_word {c : UInt8} : ∀ {w : List UInt8}, c ∉ w → splitC c w = [w]
  | [], _ => rfl
  | b :: w, h => by
    rw [splitC, if_neg (fun e => h (by simp [e])), splitC_word (fun e => h (by simp [e]))]
theorem splitC_app {c : UInt8} (r : List UInt8) : ∀ {w : List UInt8}, c ∉ w → splitC c (w ++ c :: r) = w :: splitC c r
  | [], _ => by rw [List.nil_append, splitC, if_pos rfl]
  | b :: w, h => by
    rw [List.cons_append, splitC, if_neg (fun e => h (by simp [e])), splitC_app r (fun e => h (by simp [e]))]
theorem join_split : ∀ l : List UInt8, joinW (splitC 32 l) = l
  | [] => rfl
  | b :: l => by
    have ih := join_split l
    rw [splitC]
    by_cases hb : b = 32
    · rw [if_pos hb, joinW_cons _ (splitC_ne 32 l), ih, hb]; rfl
    · rw [if_neg hb]
      cases hs : splitC 32 l with
      | nil => exact absurd hs (splitC_ne 32 l)
      | cons y ys =>
        rw [hs] at ih
        show joinW ((b :: y) :: ys) = _
        cases ys with
        | nil => simp only [joinW] at ih ⊢; rw [ih]
        | cons z zs => simp only [joinW] at ih ⊢; rw [← ih]; rfl
/-- lines to a text and back -/
def unlines (ls : List (List UInt8)) : List UInt8 := ls.flatMap fun l => l ++ [10]
theorem linesF_one {l r acc : List UInt8} (h : (10 : UInt8) ∉ l) : linesF acc (l ++ 10 :: r) = (linesF [] r).map ((acc ++ l) :: ·) := by
  induction l generalizing acc with
  | nil => simp [linesF]
  | cons b l ih =>
    rw [List.cons_append, linesF, if_neg (fun e => h (by simp [e])), ih (fun e => h (by simp [e]))]
    simp
theorem un_lines : ∀ (t acc : List UInt8) (ls : List (List UInt8)), (10 : UInt8) ∉ acc → linesF acc t = some ls → acc ++ t = unlines ls ∧ ∀ l ∈ ls, (10 : UInt8) ∉ l
  | [], acc, ls, _, h => by
    rw [linesF] at h
    split at h
    · cases h
      rename_i he
      cases acc with
      | nil => exact ⟨rfl, by simp⟩
      | cons b l => cases he
    · cases h
  | b :: t, acc, ls, ha, h => by
    rw [linesF] at h
    by_cases hb : b = 10
    · rw [if_pos hb, Option.map_eq_some_iff] at h
      obtain ⟨ls', h1, rfl⟩ := h
      obtain ⟨h2, h3⟩ := un_lines t [] ls' (by simp) h1
      rw [List.nil_append] at h2
      refine ⟨by rw [h2, hb]; simp [unlines], fun l hl => ?_⟩
      rcases List.mem_cons.1 hl with rfl | hl
      · exact ha
      · exact h3 l hl
    · rw [if_neg hb] at h
      obtain ⟨h2, h3⟩ := un_lines t (acc ++ [b]) ls (by simp [ha, Ne.symm hb]) h
      exact ⟨by rw [← h2]; simp, h3⟩
/-! ### items -/
inductive Item where
  | clk (c : Clk)
  | dom (d : Dom)
  | res (r : Int)
  | dev (d : Dev)
  | reg (r : Rg)
def putRg (d : Dev) (r : Rg) : Dev := ⟨d.clock, d.domain, d.reset, d.clamp, d.regs ++ [r], d.needs⟩
/-- what an item makes of a description -/
def addI (s : Soc) : Item → Option Soc
  | .clk c => some ⟨s.clocks ++ [c], s.domains, s.resets, s.devs⟩
  | .dom d => some ⟨s.clocks, s.domains ++ [d], s.resets, s.devs⟩
  | .res r => some ⟨s.clocks, s.domains, s.resets ++ [r], s.devs⟩
  | .dev d => some ⟨s.clocks, s.domains, s.resets, s.devs ++ [d]⟩
  | .reg r => match s.devs[s.devs.length - 1]? with
    | some d => some ⟨s.clocks, s.domains, s.resets, s.devs.set (s.devs.length - 1) (putRg d r)⟩
    | none => none
def rgF : List ByteArray → Option Rg
  | [a, b] => match w32F a, keptF b with
    | some r, some k => some ⟨(r : Int), k⟩
    | _, _ => none
  | _ => none
/-- what a line says -/
def itemF : List ByteArray → Option Item
  | [] => none
  | k :: args =>
    if k = ⟨#[99, 108, 111, 99, 107]⟩ then (clockF args).map .clk
    else if k = ⟨#[100, 111, 109, 97, 105, 110]⟩ then (domF args).map .dom
    else if k = ⟨#[114, 101, 115, 101, 116]⟩ then (resF args).map .res
    else if k = ⟨#[100, 101, 118, 105, 99, 101]⟩ then (devF args).map .dev
    else if k = ⟨#[114, 101, 103]⟩ then (rgF args).map .reg
    else none
theorem takeF_item (s : Soc) (ws : List ByteArray) : takeF s ws = (itemF ws).bind (addI s) := by
  cases ws with
  | nil => rfl
  | cons k args =>
    rw [takeF, itemF]
    split
    · cases clockF args <;> rfl
    · split
      · cases domF args <;> rfl
      · split
        · cases resF args <;> rfl
        · split
          · cases devF args <;> rfl
          · split
            · unfold regF rgF
              split
              · rename_i a b
                cases hd : s.devs[s.devs.length - 1]? with
                | none => cases hw : w32F a <;> cases hk : keptF b <;> simp [addI, hd, hw, hk]
                | some d => cases hw : w32F a <;> cases hk : keptF b <;> simp [addI, hd, putRg, hw, hk]
              · rename_i hne
                match args, hne with
                | [], _ => rfl
                | [_], _ => rfl
                | [a, b], h => exact absurd rfl (h a b)
                | _ :: _ :: _ :: _, _ => rfl
            · rfl
/-! ### how an item is written -/
def kwC : List UInt8 := [99, 108, 111, 99, 107]
def kwD : List UInt8 := [100, 111, 109, 97, 105, 110]
def kwR : List UInt8 := [114, 101, 115, 101, 116]
def kwV : List UInt8 := [100, 101, 118, 105, 99, 101]
def kwG : List UInt8 := [114, 101, 103]
def numW (n : Int) : List UInt8 := Lib.itoa n
def keptW (b : Bool) : List UInt8 := if b then [107, 101, 101, 112] else [108, 111, 115, 101]
def aboveW (n : Int) : List UInt8 := if n = -1 then [45] else numW n
/-- the numbers behind a clock's kind -/
def Clk.nums (c : Clk) : List Int := c.src ++ (if c.kind = 111 then [c.rate] else if c.kind = 112 then [c.mul, c.div, c.lock] else if c.kind = 100 then [c.div] else [])
def clkW (c : Clk) : List (List UInt8) := kwC :: [UInt8.ofNat c.kind.toNat] :: c.nums.map numW
def domW (d : Dom) : List (List UInt8) := [kwD, aboveW d.above, numW d.delay, keptW d.ret]
def resW (r : Int) : List (List UInt8) := [kwR, numW r]
def devW (d : Dev) : List (List UInt8) := kwV :: numW d.clock :: numW d.domain :: numW d.reset :: numW d.clamp :: d.needs.map numW
def rgW (r : Rg) : List (List UInt8) := [kwG, numW r.reset, keptW r.kept]
def Item.words : Item → List (List UInt8)
  | .clk c => clkW c
  | .dom d => domW d
  | .res r => resW r
  | .dev d => devW d
  | .reg r => rgW r
/-- a number that has a word -/
def isNum (n : Int) : Prop := 0 ≤ n ∧ n < 1000000000000000
def Clk.can (c : Clk) : Prop := c.nums ≠ [] ∧ (∀ n ∈ c.nums, isNum n) ∧ 0 ≤ c.kind ∧ c.kind < 256 ∧ clockN c.kind.toNat (some c.nums) = some c
def Dom.can (d : Dom) : Prop := (d.above = -1 ∨ isNum d.above) ∧ isNum d.delay
def Dev.can (d : Dev) : Prop := isNum d.clock ∧ isNum d.domain ∧ isNum d.reset ∧ 0 ≤ d.clamp ∧ d.clamp ≤ 4294967295 ∧ ∀ n ∈ d.needs, isNum n
def Rg.can (r : Rg) : Prop := 0 ≤ r.reset ∧ r.reset ≤ 4294967295
/-- an item that a line can say -/
def Item.can : Item → Prop
  | .clk c => c.can
  | .dom d => d.can
  | .res r => isNum r
  | .dev d => d.can ∧ d.regs = []
  | .reg r => r.can
theorem numW_back {s : ByteArray} {n : Nat} (h : numF s = some n) : s = strOf (numW (n : Int)) ∧ isNum (n : Int) := by
  have h1 := numF_lt h
  refine ⟨?_, by omega, by omega⟩
  unfold numW Lib.itoa
  rw [if_neg (by omega), Int.toNat_natCast]
  exact numF_back h
theorem numsF_back : ∀ {ws : List ByteArray} {l : List Int}, numsF ws = some l → ws = (l.map numW).map strOf ∧ ∀ n ∈ l, isNum n
  | [], l, h => by simp [numsF] at h; subst h; simp
  | s :: r, l, h => by
    rw [numsF] at h
    cases hs : numF s with
    | none => rw [hs] at h; cases h
    | some n =>
      rw [hs] at h
      simp only [Option.map_eq_some_iff] at h
      obtain ⟨l', h1, rfl⟩ := h
      obtain ⟨h2, h3⟩ := numsF_back h1
      obtain ⟨h4, h5⟩ := numW_back hs
      refine ⟨by rw [h2, h4]; rfl, fun x hx => ?_⟩
      rcases List.mem_cons.1 hx with rfl | hx
      · exact h5
      · exact h3 x hx
theorem keptW_back {s : ByteArray} {b : Bool} (h : keptF s = some b) : s = strOf (keptW b) := by
  unfold keptF at h
  split at h
  · cases h; assumption
  · split at h
    · cases h; assumption
    · cases h
theorem aboveF_eq (s : ByteArray) : aboveF s = if s = ⟨#[45]⟩ then some (-1) else (numF s).map Int.ofNat := by unfold aboveF; cases numF s <;> rfl
theorem resF_one (s : ByteArray) : resF [s] = (numF s).map Int.ofNat := by rw [resF]; cases numF s <;> rfl
theorem aboveW_back {s : ByteArray} {n : Int} (h : aboveF s = some n) : s = strOf (aboveW n) ∧ (n = -1 ∨ isNum n) := by
  rw [aboveF_eq] at h
  split at h
  · rename_i he
    cases h
    exact ⟨he, .inl rfl⟩
  · rw [Option.map_eq_some_iff] at h
    obtain ⟨m, h1, rfl⟩ := h
    obtain ⟨h2, h3⟩ := numW_back h1
    refine ⟨?_, .inr h3⟩
    unfold aboveW
    rw [if_neg (by show ¬ (m : Int) = -1; omega)]
    exact h2
theorem w32_back {s : ByteArray} {n : Nat} (h : w32F s = some n) : s = strOf (numW (n : Int)) ∧ n ≤ 4294967295 := by
  unfold w32F at h
  cases hs : numF s with
  | none => rw [hs] at h; cases h
  | some m =>
    rw [hs] at h
    simp only [] at h
    split at h
    · cases h; exact ⟨(numW_back hs).1, by assumption⟩
    · cases h
theorem clockN_nums {k : Nat} {l : List Int} {c : Clk} (h : clockN k (some l) = some c) : c.kind = k ∧ c.nums = l := by
  unfold clockN at h
  dsimp only at h
  repeat' (split at h)
  all_goals first | (cases h; done) | (cases h; subst_vars; exact ⟨rfl, rfl⟩) | (cases h; subst_vars; exact ⟨rfl, by simp [Clk.nums]⟩)
theorem u8_of {b : UInt8} : UInt8.ofNat b.toNat = b := by simp
theorem itemF_back {ws : List ByteArray} {i : Item} (h : itemF ws = some i) : ws = i.words.map strOf ∧ i.can := by
  cases ws with
  | nil => cases h
  | cons k args =>
    rw [itemF] at h
    split at h
    · rename_i hk
      rw [Option.map_eq_some_iff] at h
      obtain ⟨c, h1, rfl⟩ := h
      cases args with
      | nil => cases h1
      | cons a r =>
        rw [clockF] at h1
        split at h1
        · rename_i ha
          cases hn : numsF r with
          | none => rw [hn] at h1; cases h1
          | some l =>
            rw [hn] at h1
            obtain ⟨h2, h3⟩ := clockN_nums h1
            obtain ⟨h4, h5⟩ := numsF_back hn
            have hlt := (bAt a 0).toNat_lt
            have hnl := numsF_len _ _ hn
            refine ⟨?_, ?_, ?_, by rw [h2]; omega, by rw [h2]; omega, by rw [h3, h2, Int.toNat_natCast]; exact h1⟩
            · show _ :: _ :: _ = _
              rw [hk, show (Item.clk c).words = kwC :: [UInt8.ofNat c.kind.toNat] :: c.nums.map numW from rfl, List.map_cons, List.map_cons, h3, ← h4, h2, Int.toNat_natCast, u8_of]
              congr 2
              rw [← strOf_data a] at ha ⊢
              rw [bAt_strOf]
              rw [strOf_size] at ha
              obtain ⟨b, hb⟩ := len1 ha.1
              rw [hb]; rfl
            · rw [h3]; intro he; rw [he] at hnl; simp at hnl; omega
            · rw [h3]; exact h5
        · cases h1
    · split at h
      · rename_i hk
        rw [Option.map_eq_some_iff] at h
        obtain ⟨d, h1, rfl⟩ := h
        unfold domF at h1
        split at h1
        · split at h1
          · rename_i a b c x y z hx hy hz
            cases h1
            obtain ⟨h2, h3⟩ := aboveW_back hx
            obtain ⟨h4, h5⟩ := numW_back hy
            exact ⟨by rw [hk, h2, h4, keptW_back hz]; rfl, h3, h5⟩
          · cases h1
        · cases h1
      · split at h
        · rename_i hk
          rw [Option.map_eq_some_iff] at h
          obtain ⟨r, h1, rfl⟩ := h
          have h1' : ∃ a, args = [a] := by
            unfold resF at h1
            split at h1
            · exact ⟨_, rfl⟩
            · cases h1
          obtain ⟨a, rfl⟩ := h1'
          rw [resF_one, Option.map_eq_some_iff] at h1
          obtain ⟨n, h1, rfl⟩ := h1
          obtain ⟨h2, h3⟩ := numW_back h1
          exact ⟨by rw [hk, h2]; rfl, h3⟩
        · split at h
          · rename_i hk
            rw [Option.map_eq_some_iff] at h
            obtain ⟨d, h1, rfl⟩ := h
            unfold devF at h1
            split at h1
            · split at h1
              · rename_i hl _ _ _ x y z m l g1 g2 g3
                cases h1
                obtain ⟨e1, e2⟩ := numsF_back g1
                obtain ⟨e5, e6⟩ := numsF_back g3
                rw [Option.bind_eq_some_iff] at g2
                obtain ⟨a3, g2, g4⟩ := g2
                obtain ⟨e3, e4⟩ := w32_back g4
                have hs : args = args.take 3 ++ a3 :: args.drop 4 := by
                  conv => lhs; rw [← List.take_append_drop 3 args, drop_get g2]
                refine ⟨?_, ⟨e2 x (by simp), e2 y (by simp), e2 z (by simp), by show (0 : Int) ≤ (m : Int); omega, by show (m : Int) ≤ 4294967295; omega, e6⟩, rfl⟩
                rw [hk, hs, e1, e3, e5]; rfl
              · cases h1
            · cases h1
          · split at h
            · rename_i hk
              rw [Option.map_eq_some_iff] at h
              obtain ⟨r, h1, rfl⟩ := h
              unfold rgF at h1
              split at h1
              · split at h1
                · rename_i a b x z hx hz
                  cases h1
                  obtain ⟨h2, h3⟩ := w32_back hx
                  exact ⟨by rw [hk, h2, keptW_back hz]; rfl, by show (0 : Int) ≤ (x : Int); omega, by show (x : Int) ≤ 4294967295; omega⟩
                · cases h1
              · cases h1
            · cases h
/-! ### their words are words -/
theorem dd_range (n : Nat) : ∀ b ∈ Lib.decDigits n, 48 ≤ b.toNat ∧ b.toNat ≤ 57 := by
  induction n using Nat.strongRecOn with
  | ind n ih =>
    intro b hb
    by_cases h : n < 10
    · rw [dd_small h] at hb
      rw [List.mem_singleton] at hb; subst hb
      rw [u8_dig h]; omega
    · rw [dd_big h] at hb
      rcases List.mem_append.1 hb with hb | hb
      · exact ih (n / 10) (by omega) b hb
      · rw [List.mem_singleton] at hb; subst hb
        rw [u8_dig (Nat.mod_lt n (by omega))]; omega
theorem numW_range (n : Int) : ∀ b ∈ numW n, b.toNat = 45 ∨ (48 ≤ b.toNat ∧ b.toNat ≤ 57) := by
  intro b hb
  unfold numW Lib.itoa at hb
  split at hb
  · rcases List.mem_cons.1 hb with rfl | hb
    · exact .inl rfl
    · exact .inr (dd_range _ b hb)
  · exact .inr (dd_range _ b hb)
theorem numW_ne (n : Int) : numW n ≠ [] := by
  unfold numW Lib.itoa
  split
  · simp
  · exact dd_ne _
/-- no blank, no line's end, not empty -/
def isWord (w : List UInt8) : Prop := w ≠ [] ∧ ∀ b ∈ w, b ≠ 32 ∧ b ≠ 10
theorem isWord_num (n : Int) : isWord (numW n) := ⟨numW_ne n, fun b hb => by
  have := numW_range n b hb
  constructor <;> (rintro rfl; revert this; decide)⟩
theorem isWord_above (n : Int) : isWord (aboveW n) := by
  unfold aboveW; split
  · exact ⟨by simp, by simp⟩
  · exact isWord_num n
theorem isWord_kept (b : Bool) : isWord (keptW b) := by cases b <;> exact ⟨by simp [keptW], by simp [keptW]⟩
theorem clk_kind {c : Clk} (h : c.can) : c.kind = 111 ∨ c.kind = 112 ∨ c.kind = 109 ∨ c.kind = 100 ∨ c.kind = 103 := by
  obtain ⟨_, _, h3, h4, h5⟩ := h
  unfold clockN at h5
  dsimp only at h5
  repeat' (split at h5)
  all_goals first | (cases h5; done) | omega
theorem Item.isWords {i : Item} (h : i.can) : i.words ≠ [] ∧ ∀ w ∈ i.words, isWord w := by
  have hkw : ∀ w ∈ [kwC, kwD, kwR, kwV, kwG], isWord w := by
    intro w hw
    simp at hw
    rcases hw with rfl | rfl | rfl | rfl | rfl <;> exact ⟨by decide, by decide⟩
  cases i with
  | clk c =>
    refine ⟨by simp [Item.words, clkW], fun w hw => ?_⟩
    simp only [Item.words, clkW, List.mem_cons, List.mem_map] at hw
    rcases hw with rfl | rfl | ⟨n, _, rfl⟩
    · exact hkw _ (by simp)
    · refine ⟨by simp, fun b hb => ?_⟩
      simp at hb; subst hb
      rcases clk_kind h with h | h | h | h | h <;> rw [h] <;> decide
    · exact isWord_num n
  | dom d =>
    refine ⟨by simp [Item.words, domW], fun w hw => ?_⟩
    simp only [Item.words, domW, List.mem_cons, List.not_mem_nil, or_false] at hw
    rcases hw with rfl | rfl | rfl | rfl
    · exact hkw _ (by simp)
    · exact isWord_above _
    · exact isWord_num _
    · exact isWord_kept _
  | res r =>
    refine ⟨by simp [Item.words, resW], fun w hw => ?_⟩
    simp only [Item.words, resW, List.mem_cons, List.not_mem_nil, or_false] at hw
    rcases hw with rfl | rfl
    · exact hkw _ (by simp)
    · exact isWord_num _
  | dev d =>
    refine ⟨by simp [Item.words, devW], fun w hw => ?_⟩
    simp only [Item.words, devW, List.mem_cons, List.mem_map] at hw
    rcases hw with rfl | rfl | rfl | rfl | rfl | ⟨n, _, rfl⟩
    · exact hkw _ (by simp)
    all_goals exact isWord_num _
  | reg r =>
    refine ⟨by simp [Item.words, rgW], fun w hw => ?_⟩
    simp only [Item.words, rgW, List.mem_cons, List.not_mem_nil, or_false] at hw
    rcases hw with rfl | rfl | rfl
    · exact hkw _ (by simp)
    · exact isWord_num _
    · exact isWord_kept _
def Item.line (i : Item) : List UInt8 := joinW i.words
theorem joinW_mem {b : UInt8} : ∀ {ws : List (List UInt8)}, b ∈ joinW ws → b = 32 ∨ ∃ w ∈ ws, b ∈ w
  | [], h => by simp [joinW] at h
  | [w], h => .inr ⟨w, by simp, h⟩
  | w :: x :: ws, h => by
    rw [joinW] at h
    rcases List.mem_append.1 h with h | h
    · exact .inr ⟨w, by simp, h⟩
    · rcases List.mem_cons.1 h with h | h
      · exact .inl h
      · rcases joinW_mem h with h | ⟨y, hy, hb⟩
        · exact .inl h
        · exact .inr ⟨y, by simp [hy], hb⟩
theorem Item.line_no {i : Item} (h : i.can) : (10 : UInt8) ∉ i.line := fun hb => by
  rcases joinW_mem hb with h1 | ⟨w, hw, h1⟩
  · exact absurd h1 (by decide)
  · exact ((i.isWords h).2 w hw |>.2 _ h1).2 rfl
theorem item_line {l : List UInt8} {i : Item} (h : itemF (wordsF l) = some i) : l = i.line ∧ i.can := by
  obtain ⟨h1, h2⟩ := itemF_back h
  refine ⟨?_, h2⟩
  have h3 : splitC 32 l = i.words := by
    have := congrArg (List.map fun b : ByteArray => b.data.toList) h1
    simpa [wordsF, List.map_map, Function.comp_def, strOf] using this
  rw [Item.line, ← h3, join_split]
/-! ### rows of items -/
def addAll (s : Soc) : List Item → Option Soc
  | [] => some s
  | i :: is => (addI s i).bind fun s' => addAll s' is
def itemsT (is : List Item) : List UInt8 := unlines (is.map Item.line)
theorem items_takeAll : ∀ {ls : List (List UInt8)} {s s' : Soc}, takeAll s ls = some s' → ∃ is : List Item, ls = is.map Item.line ∧ (∀ i ∈ is, i.can) ∧ addAll s is = some s'
  | [], s, s', h => ⟨[], rfl, by simp, h⟩
  | l :: ls, s, s', h => by
    rw [takeAll, takeF_item, Option.bind_eq_some_iff] at h
    obtain ⟨s1, h1, h2⟩ := h
    rw [Option.bind_eq_some_iff] at h1
    obtain ⟨i, h1, h3⟩ := h1
    obtain ⟨is, rfl, h4, h5⟩ := items_takeAll h2
    obtain ⟨rfl, h6⟩ := item_line h1
    refine ⟨i :: is, rfl, fun j hj => ?_, by rw [addAll, h3]; exact h5⟩
    rcases List.mem_cons.1 hj with rfl | hj
    · exact h6
    · exact h4 j hj
theorem items_contF {t : List UInt8} {s s' : Soc} (h : contF s t = some s') : ∃ is : List Item, t = itemsT is ∧ (∀ i ∈ is, i.can) ∧ addAll s is = some s' := by
  rw [contF, Option.bind_eq_some_iff] at h
  obtain ⟨ls, h1, h2⟩ := h
  obtain ⟨is, rfl, h3, h4⟩ := items_takeAll h2
  have := (un_lines t [] _ (by simp) h1).1
  exact ⟨is, this, h3, h4⟩
/-! ### a description's items -/
/-- a description that a text can say -/
structure Soc.can (s : Soc) : Prop where
  clocks : ∀ c ∈ s.clocks, c.can
  domains : ∀ d ∈ s.domains, d.can
  resets : ∀ r ∈ s.resets, isNum r
  devs : ∀ d ∈ s.devs, d.can ∧ ∀ r ∈ d.regs, r.can
theorem addI_can {s s' : Soc} {i : Item} (h : addI s i = some s') (hs : s.can) (hi : i.can) : s'.can := by
  cases i with
  | clk c => cases h; exact ⟨fun x hx => by
      rcases List.mem_append.1 hx with hx | hx
      · exact hs.clocks x hx
      · simp at hx; subst hx; exact hi, hs.domains, hs.resets, hs.devs⟩
  | dom c => cases h; exact ⟨hs.clocks, fun x hx => by
      rcases List.mem_append.1 hx with hx | hx
      · exact hs.domains x hx
      · simp at hx; subst hx; exact hi, hs.resets, hs.devs⟩
  | res c => cases h; exact ⟨hs.clocks, hs.domains, fun x hx => by
      rcases List.mem_append.1 hx with hx | hx
      · exact hs.resets x hx
      · simp at hx; subst hx; exact hi, hs.devs⟩
  | dev c => cases h; exact ⟨hs.clocks, hs.domains, hs.resets, fun x hx => by
      rcases List.mem_append.1 hx with hx | hx
      · exact hs.devs x hx
      · simp at hx; subst hx; exact ⟨hi.1, by rw [hi.2]; simp⟩⟩
  | reg r =>
    rw [addI] at h
    split at h
    · rename_i d hd
      cases h
      have hd' := hs.devs d (List.mem_of_getElem? hd)
      refine ⟨hs.clocks, hs.domains, hs.resets, fun x hx => ?_⟩
      rcases List.mem_or_eq_of_mem_set hx with hx | rfl
      · exact hs.devs x hx
      · obtain ⟨h1, h2, h3, h4, h5, h6⟩ := hd'.1
        refine ⟨⟨h1, h2, h3, h4, h5, h6⟩, fun y hy => ?_⟩
        rcases List.mem_append.1 hy with hy | hy
        · exact hd'.2 y hy
        · simp at hy; subst hy; exact hi
    · cases h
theorem addAll_can : ∀ {is : List Item} {s s' : Soc}, addAll s is = some s' → s.can → (∀ i ∈ is, i.can) → s'.can
  | [], s, s', h, hs, _ => by cases h; exact hs
  | i :: is, s, s', h, hs, hi => by
    rw [addAll, Option.bind_eq_some_iff] at h
    obtain ⟨s1, h1, h2⟩ := h
    exact addAll_can h2 (addI_can h1 hs (hi i (by simp))) fun j hj => hi j (by simp [hj])
theorem soc0_can : soc0.can := ⟨by simp [soc0], by simp [soc0], by simp [soc0], by simp [soc0]⟩
theorem contF_can {t : List UInt8} {s : Soc} (h : contF soc0 t = some s) : s.can := by
  obtain ⟨is, _, h1, h2⟩ := items_contF h
  exact addAll_can h2 soc0_can h1
/-! ### how long a text is -/
theorem itemsT_cons (i : Item) (is : List Item) : itemsT (i :: is) = i.line ++ 10 :: itemsT is := by simp [itemsT, unlines]
theorem itemsT_app (is js : List Item) : itemsT (is ++ js) = itemsT is ++ itemsT js := by simp [itemsT, unlines]
end Go.Proofs.YtgopaoidgcgalaaGreatDoor
/- package lines: words that are written. -/
namespace Go.Proofs.YtgopaoidgcgalaaGreatDoor
set_option linter.all false
open Go.RowKit
theorem own_cap {el : TypeId} {sz n c : Nat} {A : Option Addr} {xs : List Value} {F : Nat → Prop} {w : World} (h : (HP.own el sz (.slice A n c) n xs).sat F w) : n ≤ c := by
  rcases h.2.2 with ⟨h1, h2⟩ | ⟨g, cap, cur, h1, _, _, h2, _⟩
  · omega
  · cases h1; exact h2
end Go.Proofs.YtgopaoidgcgalaaGreatDoor
/- A chip that a piece shows; rows, as a piece shows them. -/
namespace Go.Proofs.YtgopaoidgcgalaaGreatDoor
set_option linter.all false
open Go.RowKit
/-- a chip that a piece shows -/
structure SocQ (p : Piece) (s : Soc) (A1 : Option Addr) (n1 : Nat) (A2 : Option Addr) (n2 : Nat) (A3 : Option Addr) (n3 : Nat) (A4 : Option Addr) (n4 : Nat) : Prop where
  clk : RsR (slq p) (ClkR (slq p)) 55 6 A1 n1 s.clocks
  dom : RsR (slq p) DomR 69 3 A2 n2 s.domains
  rst : RsR (slq p) RstR 71 1 A3 n3 s.resets
  dev : RsR (slq p) (DevR (slq p)) 51 6 A4 n4 s.devs
section
variable {p q : Piece} {w : World} {s : Soc} {A1 A2 A3 A4 : Option Addr} {n1 n2 n3 n4 : Nat}
theorem SocQ.le (h : SocQ p s A1 n1 A2 n2 A3 n3 A4 n4) (hl : p.Le q) : SocQ q s A1 n1 A2 n2 A3 n3 A4 n4 :=
  ⟨h.clk.mono (slq_le hl) (fun _ _ => ClkR.mono (slq_le hl)), h.dom.mono (slq_le hl) (fun _ _ h => h), h.rst.mono (slq_le hl) (fun _ _ h => h), h.dev.mono (slq_le hl) (fun _ _ => DevR.mono (slq_le hl))⟩
theorem SocQ.W (h : SocQ p s A1 n1 A2 n2 A3 n3 A4 n4) (hl : p.Le (all w)) (hs : s.small) : SocW w s A1 n1 A2 n2 A3 n3 A4 n4 := ⟨(h.le hl).clk, (h.le hl).dom, (h.le hl).rst, (h.le hl).dev, hs⟩
theorem SocQ.len (h : SocQ p s A1 n1 A2 n2 A3 n3 A4 n4) : n1 = s.clocks.length ∧ n2 = s.domains.length ∧ n3 = s.resets.length ∧ n4 = s.devs.length := by
  obtain ⟨⟨_, _, h1, _⟩, ⟨_, _, h2, _⟩, ⟨_, _, h3, _⟩, ⟨_, _, h4, _⟩⟩ := h
  exact ⟨h1, h2, h3, h4⟩
theorem SocR.Q {cs : Array Value} (h : SocR (slq p) s cs) : ∃ A1 n1 k1 A2 n2 k2 A3 n3 k3 A4 n4 k4, cs = #[.slice A1 n1 k1, .slice A2 n2 k2, .slice A3 n3 k3, .slice A4 n4 k4] ∧ SocQ p s A1 n1 A2 n2 A3 n3 A4 n4 := by
  obtain ⟨A1, n1, k1, A2, n2, k2, A3, n3, k3, A4, n4, k4, h0, h1, h2, h3, h4⟩ := h
  exact ⟨A1, n1, k1, A2, n2, k2, A3, n3, k3, A4, n4, k4, h0, h1, h2, h3, h4⟩
end
end Go.Proofs.YtgopaoidgcgalaaGreatDoor
/- lines.Parse's deferred closure. -/
namespace Go.Proofs.YtgopaoidgcgalaaGreatDoor
set_option linter.all false
open Go.RowKit
theorem rec_idle (g1 g2 : Nat) (w : World) :
    CallsD Tryz.prog 23 #[.pointer (some ⟨g1, 0, none⟩), .pointer (some ⟨g2, 0, none⟩)] .returning w fun e u' w' => e = .returned (.tuple #[]) ∧ u' = .returning ∧ w' = w := by
  refine callsD_of_wpS Tryz.func23 rfl fun c₀ cs hu => ?_
  apply wpS_seq
  apply wpS_region
  simp [wpOpsS, go_sem, recoverD, hu, Tryz.ntmps23, Exit.thenS]
  refine wpS_cond (t := false) (by simp [Act.eval, Array.replicate]) ?_
  simp only [Bool.false_eq_true, if_false]
  refine wpS_of_wp (wp_skip ?_)
  cases c₀
  simp_all [bodyPostS, results, Tryz.results23]
theorem rec_catch {w0 : World} {R : List Piece} {g1 g2 : Nat} {T : TypeId} {pv : Value} {w : World} (st : St w0 R [HP.blk g2 29 [.int .i64 0], HP.blk g1 28 [.slice none 0 0, .slice none 0 0, .slice none 0 0, .slice none 0 0]] w) :
    CallsD Tryz.prog 23 #[.pointer (some ⟨g1, 0, none⟩), .pointer (some ⟨g2, 0, none⟩)] (.panicking (pan (.iface T pv))) w fun e u' w' =>
      (∃ v, e = .returned v) ∧ settle u' = .returning ∧ St w0 R [HP.blk g2 29 [.int .i64 2], HP.blk g1 28 [.slice none 0 0, .slice none 0 0, .slice none 0 0, .slice none 0 0]] w' := by
  refine callsD_of_wpS Tryz.func23 rfl fun c₀ cs hu => ?_
  unfold pan at hu
  apply wpS_seq
  apply wpS_region
  simp [wpOpsS, go_sem, recoverD, hu, Tryz.ntmps23, Exit.thenS]
  refine wpS_cond (t := true) (by simp [Act.eval, Array.replicate]) ?_
  simp only [if_true]
  refine wpS_of_wp ?_
  refine (show XK ⟨5, []⟩ w0 _ [(0, .pointer (some ⟨g1, 0, none⟩)), (1, .pointer (some ⟨g2, 0, none⟩))] R [HP.blk g2 29 [.int .i64 0], HP.blk g1 28 [.slice none 0 0, .slice none 0 0, .slice none 0 0, .slice none 0 0]] from ?_) _ _ ⟨by simp, rfl, fun t v hv => ?_⟩ st
  · refine XK.region ?_
    refine xk_buildS (zs := [.slice none 0 0, .slice none 0 0, .slice none 0 0, .slice none 0 0]) (L := [(0, 1), (1, 1), (2, 1), (3, 1)]) (zeroB_of (by kernel_rfl)) (by kernel_rfl) rfl (by simp [fillL, setN, Value.cells]; rfl) (by decide) ?_
    (first | (refine xk_storeN 0 rfl rfl rfl (by kernel_rfl) (by simp [Value.cells, Value.oneCell']) (by simp [Value.cells]) ?_) | (refine xk_storeN 1 rfl rfl rfl (by kernel_rfl) (by simp [Value.cells, Value.oneCell']) (by simp [Value.cells]) ?_) | (refine xk_storeN 2 rfl rfl rfl (by kernel_rfl) (by simp [Value.cells, Value.oneCell']) (by simp [Value.cells]) ?_) | (refine xk_storeN 3 rfl rfl rfl (by kernel_rfl) (by simp [Value.cells, Value.oneCell']) (by simp [Value.cells]) ?_) | (refine xk_storeN 4 rfl rfl rfl (by kernel_rfl) (by simp [Value.cells, Value.oneCell']) (by simp [Value.cells]) ?_) | (refine xk_storeN 5 rfl rfl rfl (by kernel_rfl) (by simp [Value.cells, Value.oneCell']) (by simp [Value.cells]) ?_) | (refine xk_storeN 6 rfl rfl rfl (by kernel_rfl) (by simp [Value.cells, Value.oneCell']) (by simp [Value.cells]) ?_) | (refine xk_storeN 7 rfl rfl rfl (by kernel_rfl) (by simp [Value.cells, Value.oneCell']) (by simp [Value.cells]) ?_) | (refine xk_storeN 8 rfl rfl rfl (by kernel_rfl) (by simp [Value.cells, Value.oneCell']) (by simp [Value.cells]) ?_)); simp only [putN, Value.cells, List.set, List.take, List.drop, List.nil_append, List.append_nil, List.length_cons, List.length_nil, List.cons_append, Nat.reduceAdd]
    refine xk_st rfl rfl ?_; dsimp only [List.set]
    refine XK.nil ?_
    intro a w' hr st'
    exact ⟨hr.defers, _, rfl, .tuple #[], results_none Tryz.results23 _ _ _, ⟨_, rfl⟩, rfl, st'⟩
  · match t, hv with
    | 0, hv => cases hv; rfl
    | 1, hv => cases hv; rfl
    | t + 2, hv => cases hv
end Go.Proofs.YtgopaoidgcgalaaGreatDoor
