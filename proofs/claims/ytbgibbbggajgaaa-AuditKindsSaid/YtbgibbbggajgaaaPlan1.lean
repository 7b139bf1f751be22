/- plan: has; the iterator of those that are to turn. -/
import Derived.Test.YtbgibbbggajgaaaIter2
import Derived.Test.YtbgibbbggajgaaaOrder
import Derived.Test.YtbgibbbggajgaaaConf4
namespace Go.Proofs.Ytbgibbbggajgaaa
set_option linter.all false
open Go.RowKit
attribute [local irreducible] KC KI KQ
def boolCells (l : List Bool) : List Value := l.map .bool
theorem boolCells_at {l : List Bool} {i : Nat} {b : Bool} (h : l[i]? = some b) : (boolCells l)[i]? = some (.bool b) := by simp [boolCells, h]
def hasB (l : List Bool) (i : Nat) : Bool := l[i]?.getD false
/-- a cell that a piece shows -/
def RP (p : Piece) (g o : Nat) (v : Value) : Prop := p.Z g ∧ p.w.cell? ⟨g, o, none⟩ = some v
theorem RP.le {p q : Piece} {g o : Nat} {v : Value} (h : RP p g o v) (hl : p.Le q) : RP q g o v := ⟨(hl g h.1).1, (World.cell?_of_block (w := p.w) (a := ⟨g, o, none⟩) (hl g h.1).2).trans h.2⟩
theorem RP.rd {w0 : World} {R : List Piece} {H : List HP} {p : Piece} {g o : Nat} {v : Value} (h : RP p g o v) (hp : p ∈ R) : Rd w0 R H g o v := Rd.ro hp h.1 h.2
theorem Iter.le {P : Program} {g : FuncId} {lb : List Value} {encs : List (List Value)} {p q : Piece} (h : Iter P g lb encs p) (hl : p.Le q) : Iter P g lb encs q := fun l J Jx W F hq hd => h l J Jx W F (fun b hb => ⟨(hq b (hl b hb).1).1, ((hq b (hl b hb).1).2).trans (hl b hb).2⟩) (fun b hb => hd b (hl b hb).1)
theorem filter_next {α : Type} {l : List α} {s : α → Bool} {k : Nat} {x : α} (hx : l[k]? = some x) (hs : s x = true) : (l.filter s)[((l.take k).filter s).length]? = some x ∧ ((l.take (k + 1)).filter s).length = ((l.take k).filter s).length + 1 := by
  have h1 : l.take (k + 1) = l.take k ++ [x] := by rw [List.take_add_one, hx]; rfl
  have h2 : l = l.take k ++ x :: l.drop (k + 1) := by
    have hlt := (List.getElem?_eq_some_iff.1 hx).1
    have hv := (List.getElem?_eq_some_iff.1 hx).2
    rw [← hv, List.getElem_cons_drop hlt, List.take_append_drop]
  refine ⟨?_, by rw [h1, List.filter_append]; simp [hs]⟩
  have h3 : l.filter s = (l.take k).filter s ++ (x :: l.drop (k + 1)).filter s := by rw [← List.filter_append, ← h2]
  rw [h3, List.getElem?_append_right (Nat.le_refl _), Nat.sub_self, List.filter_cons_of_pos hs]
  rfl
theorem filter_skip {α : Type} {l : List α} {s : α → Bool} {k : Nat} {x : α} (hx : l[k]? = some x) (hs : s x = false) : ((l.take (k + 1)).filter s).length = ((l.take k).filter s).length := by
  rw [List.take_add_one, hx, Option.toList_some, List.filter_append]
  simp [hs]
def turnB (fr to : List Bool) (i : Nat) : Bool := hasB to i && !hasB fr i
def moreL (order : List Nat) (fr to : List Bool) : List Nat := order.filter (turnB fr to)
def idCells (ids : List Nat) : List (List Value) := ids.map fun (i : Nat) => [.int .i64 (i : Int)]

theorem has_any (A : Option Addr) (n c i : Nat) (bs : List Bool) (w : World) (hs : SlS (all w) 1 A n (boolCells bs)) (hn : n = bs.length) (hi : (i : Int) ≤ 9223372036854775807) :
    Calls Try.prog 51 #[.slice A n c, .int .i64 i] w (Rt (.bool (hasB bs i)) w) := by
  refine XK.enter (vs := [.slice A n c, .int .i64 i]) Try.func51 rfl Try.ntmps51 (by simp) ?_
  refine XK.seq ?_

  refine XK.region ?_
  refine xk_assign rfl (by decide) ?_
  refine XK.nil ?_
  (repeat (first | refine XK.thenN ?_ | refine XK.thenE ?_ | refine XK.thenR ?_ | refine XK.inN ?_ | refine XK.inE ?_ | refine XK.inR ?_ | refine XK.inF rfl ?_))
  refine XK.seq ?_

  refine XK.region ?_
  refine xk_move rfl (by decide) ?_
  refine xk_move rfl (by decide) ?_
  refine xk_len (el := 4) (by kernel_rfl) rfl (by decide) ?_
  refine xk_lss rfl rfl (by decide) ?_
  refine xk_move rfl (by decide) ?_
  refine xk_split (t := 9) rfl (fun hg => ?_) (fun hg => ?_)
  ·
    refine xk_guardT rfl rfl ?_; refine xk_move rfl (by decide) ?_
    refine xk_guardT rfl rfl ?_; refine xk_move rfl (by decide) ?_
    have hin : i < bs.length := by omega
    obtain ⟨b, off, rfl, hz, hc⟩ := hs.2 (by omega)
    obtain ⟨v, hv⟩ : ∃ v, bs[i]? = some v := ⟨_, List.getElem?_eq_getElem hin⟩
    have c1 : ROc w b (off + i) (.bool v) := ⟨hz, hc i _ (boolCells_at hv)⟩
    refine xk_guardT rfl rfl ?_; refine xk_at (i) (off + i) (el := 4) (sz := 1) (by kernel_rfl) (by kernel_rfl) rfl rfl (by omega) (by omega) (by omega) (by decide) ?_
    refine xk_guardT rfl rfl ?_; refine xk_load (by kernel_rfl) rfl (by first | assumption | exact Rd.blk 0 rfl rfl | exact Rd.blk 1 rfl rfl | exact Rd.blk 2 rfl rfl | exact Rd.blk 3 rfl rfl | exact Rd.blk 4 rfl rfl | exact Rd.blk 5 rfl rfl | exact Rd.blk 6 rfl rfl | exact Rd.blk 7 rfl rfl | exact Rd.blk 8 rfl rfl | exact Rd.roc (by simp) (by assumption) | (apply Rd.rocN (by simp); assumption; rfl)) (by decide) ?_
    (first | refine xk_pickT rfl rfl (by decide) ?_ | refine xk_pickF rfl rfl (by decide) ?_)
    refine xk_assign rfl (by decide) ?_
    refine XK.nil ?_
    (repeat (first | refine XK.thenN ?_ | refine XK.thenE ?_ | refine XK.thenR ?_ | refine XK.inN ?_ | refine XK.inE ?_ | refine XK.inR ?_ | refine XK.inF rfl ?_))
    refine XK.ret ?_
    (repeat (first | refine XK.thenN ?_ | refine XK.thenE ?_ | refine XK.thenR ?_ | refine XK.inN ?_ | refine XK.inE ?_ | refine XK.inR ?_ | refine XK.inF rfl ?_))
    exact XK.ret1 rfl rfl fun w1 st => ⟨by rw [hasB, hv]; rfl, st.below (by simp)⟩
  ·
    refine xk_guardF rfl rfl rfl (by decide) ?_
    refine xk_guardF rfl rfl rfl (by decide) ?_
    refine xk_guardF rfl rfl rfl (by decide) ?_
    refine xk_guardF rfl rfl rfl (by decide) ?_
    (first | refine xk_pickT rfl rfl (by decide) ?_ | refine xk_pickF rfl rfl (by decide) ?_)
    refine xk_assign rfl (by decide) ?_
    refine XK.nil ?_
    (repeat (first | refine XK.thenN ?_ | refine XK.thenE ?_ | refine XK.thenR ?_ | refine XK.inN ?_ | refine XK.inE ?_ | refine XK.inR ?_ | refine XK.inF rfl ?_))
    refine XK.ret ?_
    (repeat (first | refine XK.thenN ?_ | refine XK.thenE ?_ | refine XK.thenR ?_ | refine XK.inN ?_ | refine XK.inE ?_ | refine XK.inR ?_ | refine XK.inF rfl ?_))
    exact XK.ret1 rfl rfl fun w1 st => ⟨by rw [hasB, List.getElem?_eq_none (by omega)]; rfl, st.below (by simp)⟩

theorem more1_iter (p : Piece) (g1 g2 g3 n nt' nf c ct cf : Nat) (A At Af : Option Addr) (order : List Nat) (fr to : List Bool) (h1 : RP p g1 0 (.slice A n c)) (h2 : RP p g2 0 (.slice At nt' ct)) (h3 : RP p g3 0 (.slice Af nf cf))
    (hs : SlS p 1 A n (intCells (natI order))) (hn : n = order.length) (hn2 : (n : Int) ≤ 9223372036854775806) (hst : SlS p 1 At nt' (boolCells to)) (hnt : nt' = to.length) (hsf : SlS p 1 Af nf (boolCells fr)) (hnf : nf = fr.length) (hord : ∀ i ∈ order, (i : Int) ≤ 9223372036854775807) :
    Iter Try.prog 131 [.pointer (some ⟨g1, 0, none⟩), .pointer (some ⟨g2, 0, none⟩), .pointer (some ⟨g3, 0, none⟩)] (idCells (moreL order fr to)) p := by
  unfold Iter
  intro l J Jx W F hp hd hJ hF hY
  refine XC.enter (vs := [.func (.yield l) #[] #[], .pointer (some ⟨g1, 0, none⟩), .pointer (some ⟨g2, 0, none⟩), .pointer (some ⟨g3, 0, none⟩)]) Try.func131 rfl Try.ntmps131 (by simp) (St.iter hp hd hJ hF) ?_
  dsimp only [List.cons_append, List.nil_append]
  refine XC.seq ?_

  refine XC.regionW (by kernel_rfl) ?_
  refine xk_load (by kernel_rfl) rfl (h1.rd (by simp)) (by decide) ?_
  refine xk_len (el := 3) (by kernel_rfl) rfl (by decide) ?_
  refine xk_move rfl (by decide) ?_
  refine XC.endW ?_
  (repeat (first | refine XC.thenN ?_ | refine XC.thenE ?_ | refine XC.thenR ?_ | refine XC.inN ?_ | refine XC.inE ?_ | refine XC.inR ?_ | refine XC.inF rfl ?_))
  refine XK.env [(9, .int .i64 0), (8, .int .i64 n), (7, .slice A n c), (3, .pointer (some ⟨g3, 0, none⟩)), (2, .pointer (some ⟨g2, 0, none⟩)), (0, .func (.yield l) #[] #[])] ⟨rfl, rfl, rfl, rfl, rfl, rfl, trivial⟩ ?_
  refine XC.block ?_
  refine XC.loop (fun m L e R H => ∃ k : Nat, k ≤ n ∧ m = n - k ∧ L = [] ∧ e = [(9, .int .i64 k), (8, .int .i64 n), (7, .slice A n c), (3, .pointer (some ⟨g3, 0, none⟩)), (2, .pointer (some ⟨g2, 0, none⟩)), (0, .func (.yield l) #[] #[])] ∧ R = [p, nt W F] ∧ H = [J (((order.take k).filter (turnB fr to)).length), HP.marks []]) n ⟨0, by omega, rfl, rfl, rfl, rfl, rfl⟩ fun m L e R H hI => ?_
  obtain ⟨k, hk, rfl, rfl, rfl, rfl, rfl⟩ := hI
  refine XC.seq ?_

  refine XC.regionW (by kernel_rfl) ?_
  refine xk_lss rfl rfl (by decide) ?_
  refine XC.endW ?_
  (repeat (first | refine XC.thenN ?_ | refine XC.thenE ?_ | refine XC.thenR ?_ | refine XC.inN ?_ | refine XC.inE ?_ | refine XC.inR ?_ | refine XC.inF rfl ?_))
  refine XC.seq ?_
  refine XC.if_ rfl (fun h => ?_) (fun h => ?_)
  ·
    refine XC.skip ?_
    (repeat (first | refine XC.thenN ?_ | refine XC.thenE ?_ | refine XC.thenR ?_ | refine XC.inN ?_ | refine XC.inE ?_ | refine XC.inR ?_ | refine XC.inF rfl ?_))
    refine XC.seq ?_
    refine XC.block ?_
    refine XC.seq ?_
    have hkn : k < order.length := by omega
    obtain ⟨b, off, rfl, hz, hc⟩ := hs.2 (by omega)
    obtain ⟨i, hi⟩ : ∃ i, order[k]? = some i := ⟨_, List.getElem?_eq_getElem hkn⟩
    have hib := hord i (List.mem_of_getElem? hi)

    refine XC.regionW (by kernel_rfl) ?_
    refine xk_at (k) (off + k) (el := 3) (sz := 1) (by kernel_rfl) (by kernel_rfl) rfl rfl (by omega) (by omega) (by omega) (by decide) ?_
    refine xk_load (by kernel_rfl) rfl (Rd.ro (p := p) (by simp) hz (hc k (.int .i64 (i : Int)) (by simp [intCells, natI, hi]))) (by decide) ?_
    refine xk_assign rfl (by decide) ?_
    refine XC.endW ?_
    (repeat (first | refine XC.thenN ?_ | refine XC.thenE ?_ | refine XC.thenR ?_ | refine XC.inN ?_ | refine XC.inE ?_ | refine XC.inR ?_ | refine XC.inF rfl ?_))
    refine XC.seq ?_

    refine XC.region ?_
    refine XI.op (by kernel_rfl) ?_; refine xk_load (by kernel_rfl) rfl (h2.rd (by simp)) (by decide) ?_; refine XI.back ?_
    refine XI.op (by kernel_rfl) ?_; refine xk_move rfl (by decide) ?_; refine XI.back ?_
    refine XI.op (by kernel_rfl) ?_; refine xk_callR (f := 51) (fi := []) (ca := []) (by kernel_rfl) rfl rfl (by decide) (fun w1 st => has_any _ _ _ i to w1 (hst.le (st.le (by simp))) hnt (by omega)) ?_; refine XI.back ?_
    refine XI.op (by kernel_rfl) ?_; refine xk_move rfl (by decide) ?_; refine XI.back ?_
    refine xk_splitB (t := 16) rfl (fun hg => ?_) (fun hg => ?_)
    ·
      refine XI.op (by kernel_rfl) ?_; refine xk_guardT rfl rfl ?_; refine xk_load (by kernel_rfl) rfl (h3.rd (by simp)) (by decide) ?_; refine XI.back ?_
      refine XI.op (by kernel_rfl) ?_; refine xk_guardT rfl rfl ?_; refine xk_move rfl (by decide) ?_; refine XI.back ?_
      refine XI.op (by kernel_rfl) ?_; refine xk_guardT rfl rfl ?_; refine xk_callR (f := 51) (fi := []) (ca := []) (by kernel_rfl) rfl rfl (by decide) (fun w1 st => has_any _ _ _ i fr w1 (hsf.le (st.le (by simp))) hnf (by omega)) ?_; refine XI.back ?_
      refine XI.op (by kernel_rfl) ?_; refine xk_guardT rfl rfl ?_; (first | refine xk_notD rfl (by decide) ?_ | refine xk_not rfl (by decide) ?_); refine XI.back ?_
      refine XI.op (by kernel_rfl) ?_; (first | refine xk_pickT rfl rfl (by decide) ?_ | refine xk_pickF rfl rfl (by decide) ?_); refine XI.back ?_
      refine XI.op (by kernel_rfl) ?_; refine xk_move rfl (by decide) ?_; refine XI.back ?_
      refine xk_splitB (t := 22) rfl (fun hg2 => ?_) (fun hg2 => ?_)
      ·
        refine XI.op (by kernel_rfl) ?_; refine xk_guardT rfl rfl ?_; refine xk_move rfl (by decide) ?_; refine XI.back ?_
        refine XI.op (by kernel_rfl) ?_; refine xk_guardT rfl rfl ?_; refine xk_move rfl (by decide) ?_; refine XI.back ?_
        have hsel : turnB fr to i = true := by rw [turnB, hg, hg2]; rfl
        obtain ⟨hf1, hf2⟩ := filter_next hi hsel
        refine XI.guardT rfl rfl ?_
        refine XI.yield 0 rfl rfl (by decide) (by simp : nt W F ∈ [p, nt W F]) (Same.refl W) rfl (fun W1 F1 h1 h2 h3 => hY _ [.int .i64 i] W1 F1 (by simp [idCells, moreL, hf1]) h1 h2 h3) ?_ ?_
        rotate_left
        ·
          refine XI.op (by kernel_rfl) ?_; refine xk_guardT rfl rfl ?_; refine xk_not rfl (by decide) ?_; refine XI.back ?_
          refine XI.op (by kernel_rfl) ?_; (first | refine xk_pickT rfl rfl (by decide) ?_ | refine xk_pickF rfl rfl (by decide) ?_); refine XI.back ?_
          refine XI.nil ?_
          (repeat (first | refine XC.thenN ?_ | refine XC.thenE ?_ | refine XC.thenR ?_ | refine XC.inN ?_ | refine XC.inE ?_ | refine XC.inR ?_ | refine XC.inF rfl ?_))
          refine XC.cond rfl (fun _ => ?_) (fun h => by cases h)
          refine XC.ret ?_
          (repeat (first | refine XC.thenN ?_ | refine XC.thenE ?_ | refine XC.thenR ?_ | refine XC.inN ?_ | refine XC.inE ?_ | refine XC.inR ?_ | refine XC.inF rfl ?_))
          refine XC.ret0 (Hs := [Jx (((order.take k).filter (turnB fr to)).length + 1)]) (.inl rfl) rfl fun w1 st => ?_
          obtain ⟨F', h1, h2⟩ := st.turns hF (by simp [nt]) (i := 0) rfl
          exact ⟨⟨_, rfl⟩, F', h2, .inr ⟨_, by simp [idCells, moreL]; exact (List.getElem?_eq_some_iff.1 hf1).1, h1⟩⟩
        dsimp only [List.set]
        refine XI.op (by kernel_rfl) ?_; refine xk_guardT rfl rfl ?_; refine xk_not rfl (by decide) ?_; refine XI.back ?_
        refine XI.op (by kernel_rfl) ?_; (first | refine xk_pickT rfl rfl (by decide) ?_ | refine xk_pickF rfl rfl (by decide) ?_); refine XI.back ?_
        refine XI.nil ?_
        (repeat (first | refine XC.thenN ?_ | refine XC.thenE ?_ | refine XC.thenR ?_ | refine XC.inN ?_ | refine XC.inE ?_ | refine XC.inR ?_ | refine XC.inF rfl ?_))
        refine XC.cond rfl (fun h => by cases h) (fun _ => ?_)

        · skip
          refine XC.skip ?_
          (repeat (first | refine XC.thenN ?_ | refine XC.thenE ?_ | refine XC.thenR ?_ | refine XC.inN ?_ | refine XC.inE ?_ | refine XC.inR ?_ | refine XC.inF rfl ?_))

          refine XC.regionW (by kernel_rfl) ?_
          refine xk_add rfl rfl (wrap_in (by omega)) (by decide) ?_
          refine xk_move rfl (by decide) ?_
          refine XC.endW ?_
          (repeat (first | refine XC.thenN ?_ | refine XC.thenE ?_ | refine XC.thenR ?_ | refine XC.inN ?_ | refine XC.inE ?_ | refine XC.inR ?_ | refine XC.inF rfl ?_))
          exact XK.env [(9, .int .i64 (k + 1)), (8, .int .i64 n), (7, .slice (some ⟨b, off, none⟩) n c), (3, .pointer (some ⟨g3, 0, none⟩)), (2, .pointer (some ⟨g2, 0, none⟩)), (0, .func (.yield l) #[] #[])] ⟨rfl, rfl, rfl, rfl, rfl, rfl, trivial⟩ (XC.round (n - (k + 1)) (by omega) ⟨k + 1, by omega, rfl, rfl, rfl, rfl, by rw [hf2]⟩)
      ·
        refine XI.op (by kernel_rfl) ?_; refine xk_guardF rfl rfl rfl (by decide) ?_; refine XI.back ?_
        refine XI.op (by kernel_rfl) ?_; refine xk_guardF rfl rfl rfl (by decide) ?_; refine XI.back ?_
        refine XI.op (by kernel_rfl) ?_; refine xk_guardF rfl rfl rfl (by decide) ?_; refine XI.back ?_
        refine XI.op (by kernel_rfl) ?_; refine xk_guardF rfl rfl rfl (by decide) ?_; refine XI.back ?_
        refine XI.op (by kernel_rfl) ?_; (first | refine xk_pickT rfl rfl (by decide) ?_ | refine xk_pickF rfl rfl (by decide) ?_); refine XI.back ?_
        refine XI.nil ?_
        (repeat (first | refine XC.thenN ?_ | refine XC.thenE ?_ | refine XC.thenR ?_ | refine XC.inN ?_ | refine XC.inE ?_ | refine XC.inR ?_ | refine XC.inF rfl ?_))
        refine XC.cond rfl (fun h => by cases h) (fun _ => ?_)
        refine XC.skip ?_
        (repeat (first | refine XC.thenN ?_ | refine XC.thenE ?_ | refine XC.thenR ?_ | refine XC.inN ?_ | refine XC.inE ?_ | refine XC.inR ?_ | refine XC.inF rfl ?_))

        refine XC.regionW (by kernel_rfl) ?_
        refine xk_add rfl rfl (wrap_in (by omega)) (by decide) ?_
        refine xk_move rfl (by decide) ?_
        refine XC.endW ?_
        (repeat (first | refine XC.thenN ?_ | refine XC.thenE ?_ | refine XC.thenR ?_ | refine XC.inN ?_ | refine XC.inE ?_ | refine XC.inR ?_ | refine XC.inF rfl ?_))
        have hsel : turnB fr to i = false := by rw [turnB, hg]; simpa using hg2
        exact XK.env [(9, .int .i64 (k + 1)), (8, .int .i64 n), (7, .slice (some ⟨b, off, none⟩) n c), (3, .pointer (some ⟨g3, 0, none⟩)), (2, .pointer (some ⟨g2, 0, none⟩)), (0, .func (.yield l) #[] #[])] ⟨rfl, rfl, rfl, rfl, rfl, rfl, trivial⟩ (XC.round (n - (k + 1)) (by omega) ⟨k + 1, by omega, rfl, rfl, rfl, rfl, by rw [filter_skip hi hsel]⟩)
    ·
      refine XI.op (by kernel_rfl) ?_; refine xk_guardF rfl rfl rfl (by decide) ?_; refine XI.back ?_
      refine XI.op (by kernel_rfl) ?_; refine xk_guardF rfl rfl rfl (by decide) ?_; refine XI.back ?_
      refine XI.op (by kernel_rfl) ?_; refine xk_guardF rfl rfl rfl (by decide) ?_; refine XI.back ?_
      refine XI.op (by kernel_rfl) ?_; refine xk_guardF rfl rfl rfl (by decide) ?_; refine XI.back ?_
      refine XI.op (by kernel_rfl) ?_; (first | refine xk_pickT rfl rfl (by decide) ?_ | refine xk_pickF rfl rfl (by decide) ?_); refine XI.back ?_
      refine XI.op (by kernel_rfl) ?_; refine xk_move rfl (by decide) ?_; refine XI.back ?_
      refine XI.op (by kernel_rfl) ?_; refine xk_guardF rfl rfl rfl (by decide) ?_; refine XI.back ?_
      refine XI.op (by kernel_rfl) ?_; refine xk_guardF rfl rfl rfl (by decide) ?_; refine XI.back ?_
      refine XI.op (by kernel_rfl) ?_; refine xk_guardF rfl rfl rfl (by decide) ?_; refine XI.back ?_
      refine XI.op (by kernel_rfl) ?_; refine xk_guardF rfl rfl rfl (by decide) ?_; refine XI.back ?_
      refine XI.op (by kernel_rfl) ?_; (first | refine xk_pickT rfl rfl (by decide) ?_ | refine xk_pickF rfl rfl (by decide) ?_); refine XI.back ?_
      refine XI.nil ?_
      (repeat (first | refine XC.thenN ?_ | refine XC.thenE ?_ | refine XC.thenR ?_ | refine XC.inN ?_ | refine XC.inE ?_ | refine XC.inR ?_ | refine XC.inF rfl ?_))
      refine XC.cond rfl (fun h => by cases h) (fun _ => ?_)
      refine XC.skip ?_
      (repeat (first | refine XC.thenN ?_ | refine XC.thenE ?_ | refine XC.thenR ?_ | refine XC.inN ?_ | refine XC.inE ?_ | refine XC.inR ?_ | refine XC.inF rfl ?_))

      refine XC.regionW (by kernel_rfl) ?_
      refine xk_add rfl rfl (wrap_in (by omega)) (by decide) ?_
      refine xk_move rfl (by decide) ?_
      refine XC.endW ?_
      (repeat (first | refine XC.thenN ?_ | refine XC.thenE ?_ | refine XC.thenR ?_ | refine XC.inN ?_ | refine XC.inE ?_ | refine XC.inR ?_ | refine XC.inF rfl ?_))
      have hsel : turnB fr to i = false := by rw [turnB, hg]; rfl
      exact XK.env [(9, .int .i64 (k + 1)), (8, .int .i64 n), (7, .slice (some ⟨b, off, none⟩) n c), (3, .pointer (some ⟨g3, 0, none⟩)), (2, .pointer (some ⟨g2, 0, none⟩)), (0, .func (.yield l) #[] #[])] ⟨rfl, rfl, rfl, rfl, rfl, rfl, trivial⟩ (XC.round (n - (k + 1)) (by omega) ⟨k + 1, by omega, rfl, rfl, rfl, rfl, by rw [filter_skip hi hsel]⟩)
  ·
    refine XC.exit ?_
    (repeat (first | refine XC.thenN ?_ | refine XC.thenE ?_ | refine XC.thenR ?_ | refine XC.inN ?_ | refine XC.inE ?_ | refine XC.inR ?_ | refine XC.inF rfl ?_))
    refine XC.ret0 (Hs := [J (((order.take k).filter (turnB fr to)).length)]) (.inr rfl) rfl fun w1 st => ?_
    obtain ⟨F', h1, h2⟩ := st.turns hF (by simp [nt]) (i := 0) rfl
    rw [List.take_of_length_le (by omega)] at h1
    exact ⟨⟨_, rfl⟩, F', h2, .inl (by simpa [idCells, moreL] using h1)⟩

end Go.Proofs.Ytbgibbbggajgaaa
