/- plan.all: all the rows of steps, as one iterator. -/
import Derived.Test.YtbgibbbggajgaaaMaybe
namespace Go.Proofs.Ytbgibbbggajgaaa
set_option linter.all false
open Go.RowKit
theorem intCells_one (l : List Int) : ∀ u ∈ intCells l, u.oneCell' = true := by
  intro u hu
  simp only [intCells, List.mem_map] at hu
  obtain ⟨x, _, rfl⟩ := hu
  rfl
theorem own_head {F : Nat → Prop} {w : World} {el : TypeId} {sz n c : Nat} {A : Option Addr} {xs : List Value} (h : (HP.own el sz (.slice A n c) n xs).sat F w) (hn : 0 < n) : ∃ g, A = some ⟨g, 0, none⟩ := by
  rcases h.2.2 with ⟨_, h0⟩ | ⟨g, cap, cur, hv, _⟩
  · omega
  · injection hv with hA
    exact ⟨g, hA⟩
theorem rev_cells (l : List Nat) : (intCells (natI l)).reverse = intCells (natI l.reverse) := by simp [intCells, natI]
/-- all steps from some wishes to others -/
def allL (s : Soc) (dl cl ll : List Nat) (fd fc fl td tc tl : List Bool) : List Stp :=
  stepL 17 4 (fun _ => 1) (moreL (dl) fd td) ++ (stepL 20 7 (fun _ => 1) (moreL (cl) fc tc) ++ (stepL 22 4 (fun _ => 0) (moreL (ll) fl tl) ++ (stepL 22 4 (fun _ => 1) (moreL (ll) tl fl) ++ (stepL 20 7 (fun _ => 0) (moreL (cl.reverse) tc fc) ++ (stepL 17 4 (retV s) (moreL (dl.reverse) td fd))))))
def AllOk (p0 : Piece) (sts : List Stp) (y : Value) (w w' : World) : Prop := ∃ g, y = .func (.func 99) #[] #[.pointer (some ⟨g, 0, none⟩)] ∧ ∀ q, p0.Le q → (fresh w w').Le q → Iter Try.prog 99 [.pointer (some ⟨g, 0, none⟩)] (stEnc sts) q
set_option maxHeartbeats 4000000 in
theorem all_any (p0 : Piece) (s : Soc) (A1 A2 A3 A4 Ad Ac Al Fd Fc Fl Td Tc Tl : Option Addr) (n1 k1 n2 k2 n3 k3 n4 k4 nd cd nc cc nl kl fdn fdk fcn fck fln flk tdn tdk tcn tck tln tlk : Nat) (dl cl ll : List Nat) (fd fc fl td tc tl : List Bool) (w : World)
    (hp0 : p0.Le (all w)) (hdom : RsR (slq p0) DomR 61 3 A2 n2 s.domains) (hn2 : (n2 : Int) ≤ 1000000)
    (hdl : SlS p0 1 Ad nd (intCells (natI dl))) (hnd : nd = dl.length) (hnd3 : nd ≤ 1000000) (hdlb : ∀ i ∈ dl, i < n2)
    (hcl : SlS p0 1 Ac nc (intCells (natI cl))) (hnc : nc = cl.length) (hnc2 : nc ≤ 1000000) (hclb : ∀ i ∈ cl, i < 1000000)
    (hll : SlS p0 1 Al nl (intCells (natI ll))) (hnl : nl = ll.length) (hnl2 : nl ≤ 1000000) (hllb : ∀ i ∈ ll, i < 1000000)
    (hfd : SlS p0 1 Fd fdn (boolCells fd)) (hfdn : fdn = fd.length) (htd : SlS p0 1 Td tdn (boolCells td)) (htdn : tdn = td.length) (hfc : SlS p0 1 Fc fcn (boolCells fc)) (hfcn : fcn = fc.length) (htc : SlS p0 1 Tc tcn (boolCells tc)) (htcn : tcn = tc.length) (hfl : SlS p0 1 Fl fln (boolCells fl)) (hfln : fln = fl.length) (htl : SlS p0 1 Tl tln (boolCells tl)) (htln : tln = tl.length) :
    Calls Try.prog 47 #[.agg #[.slice A1 n1 k1, .slice A2 n2 k2, .slice A3 n3 k3, .slice A4 n4 k4], .slice Ad nd cd, .slice Ac nc cc, .slice Al nl kl, .agg #[.slice Fd fdn fdk, .slice Fc fcn fck, .slice Fl fln flk], .agg #[.slice Td tdn tdk, .slice Tc tcn tck, .slice Tl tln tlk]] w (fun y w' => (∃ x, y = .returned x ∧ AllOk p0 (allL s dl cl ll fd fc fl td tc tl) x w w') ∧ Below w.heap.size w w') := by
  have hnd2 := hnd
  refine XK.enter (vs := [.agg #[.slice A1 n1 k1, .slice A2 n2 k2, .slice A3 n3 k3, .slice A4 n4 k4], .slice Ad nd cd, .slice Ac nc cc, .slice Al nl kl, .agg #[.slice Fd fdn fdk, .slice Fc fcn fck, .slice Fl fln flk], .agg #[.slice Td tdn tdk, .slice Tc tcn tck, .slice Tl tln tlk]]) Try.func47 rfl Try.ntmps47 (by simp) ?_
  refine XK.piece p0 (by simp) hp0 ?_
  refine XK.seq ?_
  refine XK.region ?_
  refine xk_box rfl (by decide) fun g1 => ?_
  refine xk_box rfl (by decide) fun g2 => ?_
  refine xk_box rfl (by decide) fun g3 => ?_
  refine xk_assign rfl (by decide) ?_
  refine XK.nil ?_
  (repeat (first | refine XK.thenN ?_ | refine XK.thenE ?_ | refine XK.thenR ?_ | refine XK.inN ?_ | refine XK.inE ?_ | refine XK.inR ?_ | refine XK.inF rfl ?_))
  refine XK.seq ?_
  refine XK.region ?_
  refine xk_move rfl (by decide) ?_
  refine xk_callN (f := 93) (fi := []) (ca := []) (by kernel_rfl) rfl rfl (by decide) (CloneOk_clone_int nc (intCells (natI cl))) (fun w1 st => clone_int Ac nc cc _ w1 (hcl.le (st.le (by simp))) (intCells_one _) hnc2) ?_
  rintro _ _ q13 ⟨A13, c13, rfl, rfl⟩ _
  refine xk_assign rfl (by decide) ?_
  refine XK.nil ?_
  (repeat (first | refine XK.thenN ?_ | refine XK.thenE ?_ | refine XK.thenR ?_ | refine XK.inN ?_ | refine XK.inE ?_ | refine XK.inR ?_ | refine XK.inF rfl ?_))
  refine XK.seq ?_
  refine XK.region ?_
  refine xk_move rfl (by decide) ?_
  refine xk_callM (f := 94) (fi := []) (ca := []) 0 (HP.own 3 1 (.slice A13 nc c13) nc (intCells (natI cl)).reverse) (by kernel_rfl) rfl rfl rfl ⟨by decide, rfl⟩ (fun w1 F st hp hF => reverse_int A13 nc c13 _ w1 F hp hF (intCells_one _) (by simp [intCells, natI, hnc]) hnc2 (own_head hp)) ?_
  dsimp only [List.set, List.cons_append, List.nil_append]
  rw [rev_cells]
  refine XK.nil ?_
  (repeat (first | refine XK.thenN ?_ | refine XK.thenE ?_ | refine XK.thenR ?_ | refine XK.inN ?_ | refine XK.inE ?_ | refine XK.inR ?_ | refine XK.inF rfl ?_))
  refine XK.seq ?_
  refine XK.region ?_
  refine xk_move rfl (by decide) ?_
  refine xk_callN (f := 93) (fi := []) (ca := []) (by kernel_rfl) rfl rfl (by decide) (CloneOk_clone_int nd (intCells (natI dl))) (fun w1 st => clone_int Ad nd cd _ w1 (hdl.le (st.le (by simp))) (intCells_one _) hnd3) ?_
  rintro _ _ q14 ⟨A14, c14, rfl, rfl⟩ _
  refine xk_assign rfl (by decide) ?_
  refine XK.nil ?_
  (repeat (first | refine XK.thenN ?_ | refine XK.thenE ?_ | refine XK.thenR ?_ | refine XK.inN ?_ | refine XK.inE ?_ | refine XK.inR ?_ | refine XK.inF rfl ?_))
  refine XK.seq ?_
  refine XK.region ?_
  refine xk_move rfl (by decide) ?_
  refine xk_callM (f := 94) (fi := []) (ca := []) 0 (HP.own 3 1 (.slice A14 nd c14) nd (intCells (natI dl)).reverse) (by kernel_rfl) rfl rfl rfl ⟨by decide, rfl⟩ (fun w1 F st hp hF => reverse_int A14 nd c14 _ w1 F hp hF (intCells_one _) (by simp [intCells, natI, hnd]) hnd3 (own_head hp)) ?_
  dsimp only [List.set, List.cons_append, List.nil_append]
  rw [rev_cells]
  refine XK.nil ?_
  (repeat (first | refine XK.thenN ?_ | refine XK.thenE ?_ | refine XK.thenR ?_ | refine XK.inN ?_ | refine XK.inE ?_ | refine XK.inR ?_ | refine XK.inF rfl ?_))
  refine XK.weak [0, 1, 2, 3, 4] rfl (by decide) (R' := [p0, all w]) (by simp) ?_
  refine XK.stillP p0 p0 [0, 1, 2, 3, 4] [] (by simp) (by simp) (fun b h => .inl h) rfl (by decide) (by decide) fun q0 hq le0 N0 => ?_
  have f14 := SlS.own (hq 0 _ (by simp) rfl)
  have f13 := SlS.own (hq 1 _ (by simp) rfl)
  have t_d : RP q0 g3 0 (.slice Td tdn tdk) := RP.of_blk (hq 2 _ (by simp) rfl) rfl
  have f_d : RP q0 g2 0 (.slice Fd fdn fdk) := RP.of_blk (hq 3 _ (by simp) rfl) rfl
  have t_c : RP q0 g3 1 (.slice Tc tcn tck) := RP.of_blk (hq 2 _ (by simp) rfl) rfl
  have f_c : RP q0 g2 1 (.slice Fc fcn fck) := RP.of_blk (hq 3 _ (by simp) rfl) rfl
  have t_l : RP q0 g3 2 (.slice Tl tln tlk) := RP.of_blk (hq 2 _ (by simp) rfl) rfl
  have f_l : RP q0 g2 2 (.slice Fl fln flk) := RP.of_blk (hq 3 _ (by simp) rfl) rfl
  have b1 : RP q0 g1 1 (.slice A2 n2 k2) := RP.of_blk (hq 4 _ (by simp) rfl) rfl
  have E0 : q0.Le q0 := fun b hb => ⟨hb, rfl⟩
  have vall := all1_ok q0 g1 n2 k2 s A2 b1 (hdom.mono (slq_le le0) (fun _ _ h => h)) hn2
  have hdl := hdl.le le0
  have hcl := hcl.le le0
  have hll := hll.le le0
  have hfd := hfd.le le0
  have hfc := hfc.le le0
  have hfl := hfl.le le0
  have htd := htd.le le0
  have htc := htc.le le0
  have htl := htl.le le0
  refine XK.seq ?_
  refine XK.draw 50 (by kernel_rfl) (by kernel_rfl) ?_
  refine XA.do_ 0 rfl rfl rfl (by decide) (does_move rfl) (by kernel_rfl) (fun _ _ _ h => h) (by first | exact fun _ h => h | exact fun _ h => h.tail | exact fun _ h => h.tailR | exact fun _ h => h.tail.tail | exact fun _ h => h.tailR.tail | exact fun _ h => h.tailR.tailR) ?_
  refine XA.do_ 1 rfl rfl rfl (by decide) (does_field (off := 0) (by kernel_rfl) rfl) (by kernel_rfl) (fun _ _ _ h => h) (by first | exact fun _ h => h | exact fun _ h => h.tail | exact fun _ h => h.tailR | exact fun _ h => h.tail.tail | exact fun _ h => h.tailR.tail | exact fun _ h => h.tailR.tailR) ?_
  refine XA.do_ 2 rfl rfl rfl (by decide) (does_load (by kernel_rfl) rfl (f_d.rd (by simp))) (by kernel_rfl) (fun _ _ _ h => h) (by first | exact fun _ h => h | exact fun _ h => h.tail | exact fun _ h => h.tailR | exact fun _ h => h.tail.tail | exact fun _ h => h.tailR.tail | exact fun _ h => h.tailR.tailR) ?_
  refine XA.do_ 3 rfl rfl rfl (by decide) (does_field (off := 0) (by kernel_rfl) rfl) (by kernel_rfl) (fun _ _ _ h => h) (by first | exact fun _ h => h | exact fun _ h => h.tail | exact fun _ h => h.tailR | exact fun _ h => h.tail.tail | exact fun _ h => h.tailR.tail | exact fun _ h => h.tailR.tailR) ?_
  refine XA.do_ 4 rfl rfl rfl (by decide) (does_load (by kernel_rfl) rfl (t_d.rd (by simp))) (by kernel_rfl) (fun _ _ _ h => h) (by first | exact fun _ h => h | exact fun _ h => h.tail | exact fun _ h => h.tailR | exact fun _ h => h.tail.tail | exact fun _ h => h.tailR.tail | exact fun _ h => h.tailR.tailR) ?_
  refine XA.do_ 8 rfl rfl rfl (by decide) (does_move rfl) (by kernel_rfl) (fun _ _ _ h => h) (by first | exact fun _ h => h | exact fun _ h => h.tail | exact fun _ h => h.tailR | exact fun _ h => h.tail.tail | exact fun _ h => h.tailR.tail | exact fun _ h => h.tailR.tailR) ?_
  refine XA.do_ 9 rfl rfl rfl (by decide) (does_field (off := 1) (by kernel_rfl) rfl) (by kernel_rfl) (fun _ _ _ h => h) (by first | exact fun _ h => h | exact fun _ h => h.tail | exact fun _ h => h.tailR | exact fun _ h => h.tail.tail | exact fun _ h => h.tailR.tail | exact fun _ h => h.tailR.tailR) ?_
  refine XA.do_ 10 rfl rfl rfl (by decide) (does_load (by kernel_rfl) rfl (f_c.rd (by simp))) (by kernel_rfl) (fun _ _ _ h => h) (by first | exact fun _ h => h | exact fun _ h => h.tail | exact fun _ h => h.tailR | exact fun _ h => h.tail.tail | exact fun _ h => h.tailR.tail | exact fun _ h => h.tailR.tailR) ?_
  refine XA.do_ 11 rfl rfl rfl (by decide) (does_field (off := 1) (by kernel_rfl) rfl) (by kernel_rfl) (fun _ _ _ h => h) (by first | exact fun _ h => h | exact fun _ h => h.tail | exact fun _ h => h.tailR | exact fun _ h => h.tail.tail | exact fun _ h => h.tailR.tail | exact fun _ h => h.tailR.tailR) ?_
  refine XA.do_ 12 rfl rfl rfl (by decide) (does_load (by kernel_rfl) rfl (t_c.rd (by simp))) (by kernel_rfl) (fun _ _ _ h => h) (by first | exact fun _ h => h | exact fun _ h => h.tail | exact fun _ h => h.tailR | exact fun _ h => h.tail.tail | exact fun _ h => h.tailR.tail | exact fun _ h => h.tailR.tailR) ?_
  refine XA.do_ 16 rfl rfl rfl (by decide) (does_move rfl) (by kernel_rfl) (fun _ _ _ h => h) (by first | exact fun _ h => h | exact fun _ h => h.tail | exact fun _ h => h.tailR | exact fun _ h => h.tail.tail | exact fun _ h => h.tailR.tail | exact fun _ h => h.tailR.tailR) ?_
  refine XA.do_ 17 rfl rfl rfl (by decide) (does_field (off := 2) (by kernel_rfl) rfl) (by kernel_rfl) (fun _ _ _ h => h) (by first | exact fun _ h => h | exact fun _ h => h.tail | exact fun _ h => h.tailR | exact fun _ h => h.tail.tail | exact fun _ h => h.tailR.tail | exact fun _ h => h.tailR.tailR) ?_
  refine XA.do_ 18 rfl rfl rfl (by decide) (does_load (by kernel_rfl) rfl (f_l.rd (by simp))) (by kernel_rfl) (fun _ _ _ h => h) (by first | exact fun _ h => h | exact fun _ h => h.tail | exact fun _ h => h.tailR | exact fun _ h => h.tail.tail | exact fun _ h => h.tailR.tail | exact fun _ h => h.tailR.tailR) ?_
  refine XA.do_ 19 rfl rfl rfl (by decide) (does_field (off := 2) (by kernel_rfl) rfl) (by kernel_rfl) (fun _ _ _ h => h) (by first | exact fun _ h => h | exact fun _ h => h.tail | exact fun _ h => h.tailR | exact fun _ h => h.tail.tail | exact fun _ h => h.tailR.tail | exact fun _ h => h.tailR.tailR) ?_
  refine XA.do_ 20 rfl rfl rfl (by decide) (does_load (by kernel_rfl) rfl (t_l.rd (by simp))) (by kernel_rfl) (fun _ _ _ h => h) (by first | exact fun _ h => h | exact fun _ h => h.tail | exact fun _ h => h.tailR | exact fun _ h => h.tail.tail | exact fun _ h => h.tailR.tail | exact fun _ h => h.tailR.tailR) ?_
  refine XA.do_ 24 rfl rfl rfl (by decide) (does_move rfl) (by kernel_rfl) (fun _ _ _ h => h) (by first | exact fun _ h => h | exact fun _ h => h.tail | exact fun _ h => h.tailR | exact fun _ h => h.tail.tail | exact fun _ h => h.tailR.tail | exact fun _ h => h.tailR.tailR) ?_
  refine XA.do_ 25 rfl rfl rfl (by decide) (does_field (off := 2) (by kernel_rfl) rfl) (by kernel_rfl) (fun _ _ _ h => h) (by first | exact fun _ h => h | exact fun _ h => h.tail | exact fun _ h => h.tailR | exact fun _ h => h.tail.tail | exact fun _ h => h.tailR.tail | exact fun _ h => h.tailR.tailR) ?_
  refine XA.do_ 26 rfl rfl rfl (by decide) (does_load (by kernel_rfl) rfl (t_l.rd (by simp))) (by kernel_rfl) (fun _ _ _ h => h) (by first | exact fun _ h => h | exact fun _ h => h.tail | exact fun _ h => h.tailR | exact fun _ h => h.tail.tail | exact fun _ h => h.tailR.tail | exact fun _ h => h.tailR.tailR) ?_
  refine XA.do_ 27 rfl rfl rfl (by decide) (does_field (off := 2) (by kernel_rfl) rfl) (by kernel_rfl) (fun _ _ _ h => h) (by first | exact fun _ h => h | exact fun _ h => h.tail | exact fun _ h => h.tailR | exact fun _ h => h.tail.tail | exact fun _ h => h.tailR.tail | exact fun _ h => h.tailR.tailR) ?_
  refine XA.do_ 28 rfl rfl rfl (by decide) (does_load (by kernel_rfl) rfl (f_l.rd (by simp))) (by kernel_rfl) (fun _ _ _ h => h) (by first | exact fun _ h => h | exact fun _ h => h.tail | exact fun _ h => h.tailR | exact fun _ h => h.tail.tail | exact fun _ h => h.tailR.tail | exact fun _ h => h.tailR.tailR) ?_
  refine XA.do_ 32 rfl rfl rfl (by decide) (does_move rfl) (by kernel_rfl) (fun _ _ _ h => h) (by first | exact fun _ h => h | exact fun _ h => h.tail | exact fun _ h => h.tailR | exact fun _ h => h.tail.tail | exact fun _ h => h.tailR.tail | exact fun _ h => h.tailR.tailR) ?_
  refine XA.do_ 33 rfl rfl rfl (by decide) (does_field (off := 1) (by kernel_rfl) rfl) (by kernel_rfl) (fun _ _ _ h => h) (by first | exact fun _ h => h | exact fun _ h => h.tail | exact fun _ h => h.tailR | exact fun _ h => h.tail.tail | exact fun _ h => h.tailR.tail | exact fun _ h => h.tailR.tailR) ?_
  refine XA.do_ 34 rfl rfl rfl (by decide) (does_load (by kernel_rfl) rfl (t_c.rd (by simp))) (by kernel_rfl) (fun _ _ _ h => h) (by first | exact fun _ h => h | exact fun _ h => h.tail | exact fun _ h => h.tailR | exact fun _ h => h.tail.tail | exact fun _ h => h.tailR.tail | exact fun _ h => h.tailR.tailR) ?_
  refine XA.do_ 35 rfl rfl rfl (by decide) (does_field (off := 1) (by kernel_rfl) rfl) (by kernel_rfl) (fun _ _ _ h => h) (by first | exact fun _ h => h | exact fun _ h => h.tail | exact fun _ h => h.tailR | exact fun _ h => h.tail.tail | exact fun _ h => h.tailR.tail | exact fun _ h => h.tailR.tailR) ?_
  refine XA.do_ 36 rfl rfl rfl (by decide) (does_load (by kernel_rfl) rfl (f_c.rd (by simp))) (by kernel_rfl) (fun _ _ _ h => h) (by first | exact fun _ h => h | exact fun _ h => h.tail | exact fun _ h => h.tailR | exact fun _ h => h.tail.tail | exact fun _ h => h.tailR.tail | exact fun _ h => h.tailR.tailR) ?_
  refine XA.do_ 40 rfl rfl rfl (by decide) (does_move rfl) (by kernel_rfl) (fun _ _ _ h => h) (by first | exact fun _ h => h | exact fun _ h => h.tail | exact fun _ h => h.tailR | exact fun _ h => h.tail.tail | exact fun _ h => h.tailR.tail | exact fun _ h => h.tailR.tailR) ?_
  refine XA.do_ 41 rfl rfl rfl (by decide) (does_field (off := 0) (by kernel_rfl) rfl) (by kernel_rfl) (fun _ _ _ h => h) (by first | exact fun _ h => h | exact fun _ h => h.tail | exact fun _ h => h.tailR | exact fun _ h => h.tail.tail | exact fun _ h => h.tailR.tail | exact fun _ h => h.tailR.tailR) ?_
  refine XA.do_ 42 rfl rfl rfl (by decide) (does_load (by kernel_rfl) rfl (t_d.rd (by simp))) (by kernel_rfl) (fun _ _ _ h => h) (by first | exact fun _ h => h | exact fun _ h => h.tail | exact fun _ h => h.tailR | exact fun _ h => h.tail.tail | exact fun _ h => h.tailR.tail | exact fun _ h => h.tailR.tailR) ?_
  refine XA.do_ 43 rfl rfl rfl (by decide) (does_field (off := 0) (by kernel_rfl) rfl) (by kernel_rfl) (fun _ _ _ h => h) (by first | exact fun _ h => h | exact fun _ h => h.tail | exact fun _ h => h.tailR | exact fun _ h => h.tail.tail | exact fun _ h => h.tailR.tail | exact fun _ h => h.tailR.tailR) ?_
  refine XA.do_ 44 rfl rfl rfl (by decide) (does_load (by kernel_rfl) rfl (f_d.rd (by simp))) (by kernel_rfl) (fun _ _ _ h => h) (by first | exact fun _ h => h | exact fun _ h => h.tail | exact fun _ h => h.tailR | exact fun _ h => h.tail.tail | exact fun _ h => h.tailR.tail | exact fun _ h => h.tailR.tailR) ?_
  refine XA.do_ 46 rfl rfl rfl (by decide) (does_func (vf := []) (vc := [.pointer (some ⟨g1, 0, none⟩)]) rfl rfl) (by kernel_rfl) (fun _ _ _ h => h) (by first | exact fun _ h => h | exact fun _ h => h.tail | exact fun _ h => h.tailR | exact fun _ h => h.tail.tail | exact fun _ h => h.tailR.tail | exact fun _ h => h.tailR.tailR) ?_
  refine XA.maybe0 (j := 49) 15 166 [.slice none 0 0] fun M => ?_
  refine XA.maybe 5 49 rfl rfl (zeroB_of (by kernel_rfl)) (by decide) (by kernel_rfl) (by kernel_rfl) (fun _ h => h) (fun M => ?_)
  refine xk_callP p0 q0 (f := 96) (fi := []) (ca := []) (by kernel_rfl) (ev_M M rfl rfl) (evs_M M rfl rfl) (by decide) (by simp) N0 (MoreOk q0 (moreL (dl) fd td)) (fun w1 st => more_any q0 nd tdn fdn cd tdk fdk Ad Td Fd (dl) fd td w1 (hdl.le E0) hnd (by omega) (htd.le E0) htdn (hfd.le E0) hfdn (fun i hi => by have := hdlb i hi; omega)) ?_
  rintro _ w1 q1 ⟨x0, y0, z0, rfl, hit⟩ hf L1 N1
  have it0 := hit q1 L1 hf
  have E1 := E0.trans' L1
  clear hf
  refine XK.nil ?_; refine XK.thenN ?_; refine XA.backM (by decide) rfl (fun _ h => h.tailR) ?_
  refine XA.maybe 6 49 rfl rfl (zeroB_of (by kernel_rfl)) (by decide) (by kernel_rfl) (by kernel_rfl) (fun _ h => h.tailR) (fun M => ?_)
  refine xk_callP p0 q1 (f := 97) (fi := []) (ca := []) (by kernel_rfl) (ev_M M rfl rfl) (evs_M M rfl rfl) (by decide) (by simp) N1 (AlwaysOk 1) (fun w1 st => always_any 1 w1) ?_
  rintro _ w1 q2 ⟨u0, rfl, hva⟩ hf L2 N2
  have va0 := hva q2 hf
  have E2 := E1.trans' L2
  clear hf
  refine XK.weakR (R' := [q2, q0, p0, all w]) (by simp) ?_
  refine XK.nil ?_; refine XK.thenN ?_; refine XA.backM (by decide) rfl (fun _ h => h.tailR) ?_
  refine XA.maybe 7 49 rfl rfl (zeroB_of (by kernel_rfl)) (by decide) (by kernel_rfl) (by kernel_rfl) (fun _ h => h.tailR) (fun M => ?_)
  refine xk_callP p0 q2 (f := 95) (fi := []) (ca := []) (by kernel_rfl) (ev_M M rfl rfl) (evs_M M rfl rfl) (by decide) (by simp) N2 (StepsOk q2 (stepCells 17 4 (fun _ => 1) (moreL (dl) fd td))) (fun w1 st => steps_any q2 131 132 [.pointer (some ⟨x0, 0, none⟩), .pointer (some ⟨y0, 0, none⟩), .pointer (some ⟨z0, 0, none⟩)] [.pointer (some ⟨u0, 0, none⟩)] 17 4 (fun _ => 1) (moreL (dl) fd td) w1 (it0.le L2) (by kernel_rfl) (by kernel_rfl) (va0 _) (fun i hi => by have := hdlb i (List.mem_filter.1 hi).1; omega)) ?_
  rintro _ w1 q3 ⟨c0, d0, e0, f0, rfl, hst⟩ hf L3 N3
  have st0 := hst q3 L3 hf
  have E3 := E2.trans' L3
  clear hf
  refine XK.weakR (R' := [q3, q0, p0, all w]) (by simp) ?_
  refine XK.nil ?_; refine XK.thenN ?_; refine XA.backM (by decide) rfl (fun _ h => h.tailR) ?_
  refine XA.maybe 13 49 rfl rfl (zeroB_of (by kernel_rfl)) (by decide) (by kernel_rfl) (by kernel_rfl) (fun _ h => h.tailR) (fun M => ?_)
  refine xk_callP p0 q3 (f := 96) (fi := []) (ca := []) (by kernel_rfl) (ev_M M rfl rfl) (evs_M M rfl rfl) (by decide) (by simp) N3 (MoreOk q3 (moreL (cl) fc tc)) (fun w1 st => more_any q3 nc tcn fcn cc tck fck Ac Tc Fc (cl) fc tc w1 (hcl.le E3) hnc (by omega) (htc.le E3) htcn (hfc.le E3) hfcn (fun i hi => by have := hclb i hi; omega)) ?_
  rintro _ w1 q4 ⟨x1, y1, z1, rfl, hit⟩ hf L4 N4
  have it1 := hit q4 L4 hf
  have E4 := E3.trans' L4
  clear hf
  refine XK.weakR (R' := [q4, q0, p0, all w]) (by simp) ?_
  refine XK.nil ?_; refine XK.thenN ?_; refine XA.backM (by decide) rfl (fun _ h => h.tailR) ?_
  refine XA.maybe 14 49 rfl rfl (zeroB_of (by kernel_rfl)) (by decide) (by kernel_rfl) (by kernel_rfl) (fun _ h => h.tailR) (fun M => ?_)
  refine xk_callP p0 q4 (f := 97) (fi := []) (ca := []) (by kernel_rfl) (ev_M M rfl rfl) (evs_M M rfl rfl) (by decide) (by simp) N4 (AlwaysOk 1) (fun w1 st => always_any 1 w1) ?_
  rintro _ w1 q5 ⟨u1, rfl, hva⟩ hf L5 N5
  have va1 := hva q5 hf
  have E5 := E4.trans' L5
  clear hf
  refine XK.weakR (R' := [q5, q0, p0, all w]) (by simp) ?_
  refine XK.nil ?_; refine XK.thenN ?_; refine XA.backM (by decide) rfl (fun _ h => h.tailR) ?_
  refine XA.maybe 15 49 rfl rfl (zeroB_of (by kernel_rfl)) (by decide) (by kernel_rfl) (by kernel_rfl) (fun _ h => h.tailR) (fun M => ?_)
  refine xk_callP p0 q5 (f := 95) (fi := []) (ca := []) (by kernel_rfl) (ev_M M rfl rfl) (evs_M M rfl rfl) (by decide) (by simp) N5 (StepsOk q5 (stepCells 20 7 (fun _ => 1) (moreL (cl) fc tc))) (fun w1 st => steps_any q5 131 132 [.pointer (some ⟨x1, 0, none⟩), .pointer (some ⟨y1, 0, none⟩), .pointer (some ⟨z1, 0, none⟩)] [.pointer (some ⟨u1, 0, none⟩)] 20 7 (fun _ => 1) (moreL (cl) fc tc) w1 (it1.le L5) (by kernel_rfl) (by kernel_rfl) (va1 _) (fun i hi => by have := hclb i (List.mem_filter.1 hi).1; omega)) ?_
  rintro _ w1 q6 ⟨c1, d1, e1, f1, rfl, hst⟩ hf L6 N6
  have st1 := hst q6 L6 hf
  have E6 := E5.trans' L6
  clear hf
  refine XK.weakR (R' := [q6, q0, p0, all w]) (by simp) ?_
  refine XK.nil ?_; refine XK.thenN ?_; refine XA.backM (by decide) rfl (fun _ h => h.tailR) ?_
  refine XA.maybe 21 49 rfl rfl (zeroB_of (by kernel_rfl)) (by decide) (by kernel_rfl) (by kernel_rfl) (fun _ h => h.tailR) (fun M => ?_)
  refine xk_callP p0 q6 (f := 96) (fi := []) (ca := []) (by kernel_rfl) (ev_M M rfl rfl) (evs_M M rfl rfl) (by decide) (by simp) N6 (MoreOk q6 (moreL (ll) fl tl)) (fun w1 st => more_any q6 nl tln fln kl tlk flk Al Tl Fl (ll) fl tl w1 (hll.le E6) hnl (by omega) (htl.le E6) htln (hfl.le E6) hfln (fun i hi => by have := hllb i hi; omega)) ?_
  rintro _ w1 q7 ⟨x2, y2, z2, rfl, hit⟩ hf L7 N7
  have it2 := hit q7 L7 hf
  have E7 := E6.trans' L7
  clear hf
  refine XK.weakR (R' := [q7, q0, p0, all w]) (by simp) ?_
  refine XK.nil ?_; refine XK.thenN ?_; refine XA.backM (by decide) rfl (fun _ h => h.tailR) ?_
  refine XA.maybe 22 49 rfl rfl (zeroB_of (by kernel_rfl)) (by decide) (by kernel_rfl) (by kernel_rfl) (fun _ h => h.tailR) (fun M => ?_)
  refine xk_callP p0 q7 (f := 97) (fi := []) (ca := []) (by kernel_rfl) (ev_M M rfl rfl) (evs_M M rfl rfl) (by decide) (by simp) N7 (AlwaysOk 0) (fun w1 st => always_any 0 w1) ?_
  rintro _ w1 q8 ⟨u2, rfl, hva⟩ hf L8 N8
  have va2 := hva q8 hf
  have E8 := E7.trans' L8
  clear hf
  refine XK.weakR (R' := [q8, q0, p0, all w]) (by simp) ?_
  refine XK.nil ?_; refine XK.thenN ?_; refine XA.backM (by decide) rfl (fun _ h => h.tailR) ?_
  refine XA.maybe 23 49 rfl rfl (zeroB_of (by kernel_rfl)) (by decide) (by kernel_rfl) (by kernel_rfl) (fun _ h => h.tailR) (fun M => ?_)
  refine xk_callP p0 q8 (f := 95) (fi := []) (ca := []) (by kernel_rfl) (ev_M M rfl rfl) (evs_M M rfl rfl) (by decide) (by simp) N8 (StepsOk q8 (stepCells 22 4 (fun _ => 0) (moreL (ll) fl tl))) (fun w1 st => steps_any q8 131 132 [.pointer (some ⟨x2, 0, none⟩), .pointer (some ⟨y2, 0, none⟩), .pointer (some ⟨z2, 0, none⟩)] [.pointer (some ⟨u2, 0, none⟩)] 22 4 (fun _ => 0) (moreL (ll) fl tl) w1 (it2.le L8) (by kernel_rfl) (by kernel_rfl) (va2 _) (fun i hi => by have := hllb i (List.mem_filter.1 hi).1; omega)) ?_
  rintro _ w1 q9 ⟨c2, d2, e2, f2, rfl, hst⟩ hf L9 N9
  have st2 := hst q9 L9 hf
  have E9 := E8.trans' L9
  clear hf
  refine XK.weakR (R' := [q9, q0, p0, all w]) (by simp) ?_
  refine XK.nil ?_; refine XK.thenN ?_; refine XA.backM (by decide) rfl (fun _ h => h.tailR) ?_
  refine XA.maybe 29 49 rfl rfl (zeroB_of (by kernel_rfl)) (by decide) (by kernel_rfl) (by kernel_rfl) (fun _ h => h.tailR) (fun M => ?_)
  refine xk_callP p0 q9 (f := 96) (fi := []) (ca := []) (by kernel_rfl) (ev_M M rfl rfl) (evs_M M rfl rfl) (by decide) (by simp) N9 (MoreOk q9 (moreL (ll) tl fl)) (fun w1 st => more_any q9 nl fln tln kl flk tlk Al Fl Tl (ll) tl fl w1 (hll.le E9) hnl (by omega) (hfl.le E9) hfln (htl.le E9) htln (fun i hi => by have := hllb i hi; omega)) ?_
  rintro _ w1 q10 ⟨x3, y3, z3, rfl, hit⟩ hf L10 N10
  have it3 := hit q10 L10 hf
  have E10 := E9.trans' L10
  clear hf
  refine XK.weakR (R' := [q10, q0, p0, all w]) (by simp) ?_
  refine XK.nil ?_; refine XK.thenN ?_; refine XA.backM (by decide) rfl (fun _ h => h.tailR) ?_
  refine XA.maybe 30 49 rfl rfl (zeroB_of (by kernel_rfl)) (by decide) (by kernel_rfl) (by kernel_rfl) (fun _ h => h.tailR) (fun M => ?_)
  refine xk_callP p0 q10 (f := 97) (fi := []) (ca := []) (by kernel_rfl) (ev_M M rfl rfl) (evs_M M rfl rfl) (by decide) (by simp) N10 (AlwaysOk 1) (fun w1 st => always_any 1 w1) ?_
  rintro _ w1 q11 ⟨u3, rfl, hva⟩ hf L11 N11
  have va3 := hva q11 hf
  have E11 := E10.trans' L11
  clear hf
  refine XK.weakR (R' := [q11, q0, p0, all w]) (by simp) ?_
  refine XK.nil ?_; refine XK.thenN ?_; refine XA.backM (by decide) rfl (fun _ h => h.tailR) ?_
  refine XA.maybe 31 49 rfl rfl (zeroB_of (by kernel_rfl)) (by decide) (by kernel_rfl) (by kernel_rfl) (fun _ h => h.tailR) (fun M => ?_)
  refine xk_callP p0 q11 (f := 95) (fi := []) (ca := []) (by kernel_rfl) (ev_M M rfl rfl) (evs_M M rfl rfl) (by decide) (by simp) N11 (StepsOk q11 (stepCells 22 4 (fun _ => 1) (moreL (ll) tl fl))) (fun w1 st => steps_any q11 131 132 [.pointer (some ⟨x3, 0, none⟩), .pointer (some ⟨y3, 0, none⟩), .pointer (some ⟨z3, 0, none⟩)] [.pointer (some ⟨u3, 0, none⟩)] 22 4 (fun _ => 1) (moreL (ll) tl fl) w1 (it3.le L11) (by kernel_rfl) (by kernel_rfl) (va3 _) (fun i hi => by have := hllb i (List.mem_filter.1 hi).1; omega)) ?_
  rintro _ w1 q12 ⟨c3, d3, e3, f3, rfl, hst⟩ hf L12 N12
  have st3 := hst q12 L12 hf
  have E12 := E11.trans' L12
  clear hf
  refine XK.weakR (R' := [q12, q0, p0, all w]) (by simp) ?_
  refine XK.nil ?_; refine XK.thenN ?_; refine XA.backM (by decide) rfl (fun _ h => h.tailR) ?_
  refine XA.maybe 37 49 rfl rfl (zeroB_of (by kernel_rfl)) (by decide) (by kernel_rfl) (by kernel_rfl) (fun _ h => h.tailR) (fun M => ?_)
  refine xk_callP p0 q12 (f := 96) (fi := []) (ca := []) (by kernel_rfl) (ev_M M rfl rfl) (evs_M M rfl rfl) (by decide) (by simp) N12 (MoreOk q12 (moreL (cl.reverse) tc fc)) (fun w1 st => more_any q12 nc fcn tcn c13 fck tck A13 Fc Tc (cl.reverse) tc fc w1 (f13.le E12) (by simpa using hnc) (by omega) (hfc.le E12) hfcn (htc.le E12) htcn (fun i hi => by have := (fun i hi => hclb i (by simpa using hi)) i hi; omega)) ?_
  rintro _ w1 q13 ⟨x4, y4, z4, rfl, hit⟩ hf L13 N13
  have it4 := hit q13 L13 hf
  have E13 := E12.trans' L13
  clear hf
  refine XK.weakR (R' := [q13, q0, p0, all w]) (by simp) ?_
  refine XK.nil ?_; refine XK.thenN ?_; refine XA.backM (by decide) rfl (fun _ h => h.tailR) ?_
  refine XA.maybe 38 49 rfl rfl (zeroB_of (by kernel_rfl)) (by decide) (by kernel_rfl) (by kernel_rfl) (fun _ h => h.tailR) (fun M => ?_)
  refine xk_callP p0 q13 (f := 97) (fi := []) (ca := []) (by kernel_rfl) (ev_M M rfl rfl) (evs_M M rfl rfl) (by decide) (by simp) N13 (AlwaysOk 0) (fun w1 st => always_any 0 w1) ?_
  rintro _ w1 q14 ⟨u4, rfl, hva⟩ hf L14 N14
  have va4 := hva q14 hf
  have E14 := E13.trans' L14
  clear hf
  refine XK.weakR (R' := [q14, q0, p0, all w]) (by simp) ?_
  refine XK.nil ?_; refine XK.thenN ?_; refine XA.backM (by decide) rfl (fun _ h => h.tailR) ?_
  refine XA.maybe 39 49 rfl rfl (zeroB_of (by kernel_rfl)) (by decide) (by kernel_rfl) (by kernel_rfl) (fun _ h => h.tailR) (fun M => ?_)
  refine xk_callP p0 q14 (f := 95) (fi := []) (ca := []) (by kernel_rfl) (ev_M M rfl rfl) (evs_M M rfl rfl) (by decide) (by simp) N14 (StepsOk q14 (stepCells 20 7 (fun _ => 0) (moreL (cl.reverse) tc fc))) (fun w1 st => steps_any q14 131 132 [.pointer (some ⟨x4, 0, none⟩), .pointer (some ⟨y4, 0, none⟩), .pointer (some ⟨z4, 0, none⟩)] [.pointer (some ⟨u4, 0, none⟩)] 20 7 (fun _ => 0) (moreL (cl.reverse) tc fc) w1 (it4.le L14) (by kernel_rfl) (by kernel_rfl) (va4 _) (fun i hi => by have := (fun i hi => hclb i (by simpa using hi)) i (List.mem_filter.1 hi).1; omega)) ?_
  rintro _ w1 q15 ⟨c4, d4, e4, f4, rfl, hst⟩ hf L15 N15
  have st4 := hst q15 L15 hf
  have E15 := E14.trans' L15
  clear hf
  refine XK.weakR (R' := [q15, q0, p0, all w]) (by simp) ?_
  refine XK.nil ?_; refine XK.thenN ?_; refine XA.backM (by decide) rfl (fun _ h => h.tailR) ?_
  refine XA.maybe 45 49 rfl rfl (zeroB_of (by kernel_rfl)) (by decide) (by kernel_rfl) (by kernel_rfl) (fun _ h => h.tailR) (fun M => ?_)
  refine xk_callP p0 q15 (f := 96) (fi := []) (ca := []) (by kernel_rfl) (ev_M M rfl rfl) (evs_M M rfl rfl) (by decide) (by simp) N15 (MoreOk q15 (moreL (dl.reverse) td fd)) (fun w1 st => more_any q15 nd fdn tdn c14 fdk tdk A14 Fd Td (dl.reverse) td fd w1 (f14.le E15) (by simpa using hnd) (by omega) (hfd.le E15) hfdn (htd.le E15) htdn (fun i hi => by have := (fun i hi => hdlb i (by simpa using hi)) i hi; omega)) ?_
  rintro _ w1 q16 ⟨x5, y5, z5, rfl, hit⟩ hf L16 N16
  have it5 := hit q16 L16 hf
  have E16 := E15.trans' L16
  clear hf
  refine XK.weakR (R' := [q16, q0, p0, all w]) (by simp) ?_
  refine XK.nil ?_; refine XK.thenN ?_; refine XA.backM (by decide) rfl (fun _ h => h.tailR) ?_
  refine XA.maybe 47 49 rfl rfl (zeroB_of (by kernel_rfl)) (by decide) (by kernel_rfl) (by kernel_rfl) (fun _ h => h.tailR) (fun M => ?_)
  refine xk_callP p0 q16 (f := 95) (fi := []) (ca := []) (by kernel_rfl) (ev_M M rfl rfl) (evs_M M rfl rfl) (by decide) (by simp) N16 (StepsOk q16 (stepCells 17 4 (retV s) (moreL (dl.reverse) td fd))) (fun w1 st => steps_any q16 131 98 [.pointer (some ⟨x5, 0, none⟩), .pointer (some ⟨y5, 0, none⟩), .pointer (some ⟨z5, 0, none⟩)] [.pointer (some ⟨g1, 0, none⟩)] 17 4 (retV s) (moreL (dl.reverse) td fd) w1 (it5.le (Piece.Le.refl _)) (by kernel_rfl) (by kernel_rfl) ((vall (moreL (dl.reverse) td fd) (fun i hi => by have := (fun i hi => hdlb i (by simpa using hi)) i (List.mem_filter.1 hi).1; omega)).le E16) (fun i hi => by have := (fun i hi => hdlb i (by simpa using hi)) i (List.mem_filter.1 hi).1; omega)) ?_
  rintro _ w1 q17 ⟨c5, d5, e5, f5, rfl, hst⟩ hf L17 N17
  have st5 := hst q17 L17 hf
  have E17 := E16.trans' L17
  clear hf
  refine XK.weakR (R' := [q17, q0, p0, all w]) (by simp) ?_
  refine XK.nil ?_; refine XK.thenN ?_; refine XA.backM (by decide) rfl (fun _ h => h.tailR) ?_
  refine XA.maybe 48 49 rfl rfl (zeroB_of (by kernel_rfl)) (by decide) (by kernel_rfl) (by kernel_rfl) (fun _ h => h.tailR) (fun M => ?_)
  cases M with
  | none =>
    dsimp only [emM, hmM, lmM, fmM]
    refine xk_slice (el := 111) (sz := 1) (zs := [.nilFunc]) (by kernel_rfl) (zeroB_of (by kernel_rfl)) (by kernel_rfl) rfl (by decide) (by decide) rfl (by simp [fillL, setN, Value.cells, List.range_succ, List.set]; rfl) (by decide) fun gS => ?_
    refine XK.nil ?_; refine XK.thenN ?_; refine XA.back (fun _ h => h.tail.tailR) ?_
    refine XA.next 49 rfl (by kernel_rfl) ?_
    refine xk_alloc (cs := [.slice none 0 0]) (zeroB_of (by kernel_rfl)) (by decide) fun g15 => ?_
    refine XK.nil ?_; refine XK.thenN ?_; refine XA.back (fun _ h => h.tail.tail.tailR) ?_
    refine XA.next 50 rfl (by kernel_rfl) ?_
    (first | (refine xk_store 0 rfl (by kernel_rfl) rfl rfl rfl (by first | (simp; done) | (simp [Value.cells]; done)) ?_) | (refine xk_store 1 rfl (by kernel_rfl) rfl rfl rfl (by first | (simp; done) | (simp [Value.cells]; done)) ?_) | (refine xk_store 2 rfl (by kernel_rfl) rfl rfl rfl (by first | (simp; done) | (simp [Value.cells]; done)) ?_) | (refine xk_store 3 rfl (by kernel_rfl) rfl rfl rfl (by first | (simp; done) | (simp [Value.cells]; done)) ?_) | (refine xk_store 4 rfl (by kernel_rfl) rfl rfl rfl (by first | (simp; done) | (simp [Value.cells]; done)) ?_) | (refine xk_store 5 rfl (by kernel_rfl) rfl rfl rfl (by first | (simp; done) | (simp [Value.cells]; done)) ?_) | (refine xk_store 6 rfl (by kernel_rfl) rfl rfl rfl (by first | (simp; done) | (simp [Value.cells]; done)) ?_) | (refine xk_store 7 rfl (by kernel_rfl) rfl rfl rfl (by first | (simp; done) | (simp [Value.cells]; done)) ?_) | (refine xk_store 8 rfl (by kernel_rfl) rfl rfl rfl (by first | (simp; done) | (simp [Value.cells]; done)) ?_)); dsimp only [List.set]
    refine XK.nil ?_; refine XK.thenN ?_; refine XA.backT rfl ?_
    refine XA.done (by kernel_rfl) ?_
    (repeat (first | refine XK.thenN ?_ | refine XK.thenE ?_ | refine XK.thenR ?_ | refine XK.inN ?_ | refine XK.inE ?_ | refine XK.inR ?_ | refine XK.inF rfl ?_))
    refine XK.seq ?_
    refine XK.region ?_
    refine xk_func (vf := []) (vc := [.pointer (some ⟨g15, 0, none⟩)]) rfl rfl (by decide) ?_
    refine xk_assign rfl (by decide) ?_
    refine XK.nil ?_
    (repeat (first | refine XK.thenN ?_ | refine XK.thenE ?_ | refine XK.thenR ?_ | refine XK.inN ?_ | refine XK.inE ?_ | refine XK.inR ?_ | refine XK.inF rfl ?_))
    refine XK.ret ?_
    (repeat (first | refine XK.thenN ?_ | refine XK.thenE ?_ | refine XK.thenR ?_ | refine XK.inN ?_ | refine XK.inE ?_ | refine XK.inR ?_ | refine XK.inF rfl ?_))
    refine XK.stillP p0 q17 [0, 1] [] (by simp) (by simp) N17 rfl (by decide) (by decide) fun qs hqs Ls Ns => ?_
    have r15 := RP.of_blk (o := 0) (hqs 0 _ (by simp) rfl) rfl
    obtain ⟨FS, sS, zS⟩ := hqs 1 _ (by simp) rfl
    have rS := SlS.of_blk (n := 6) (sz := 1) (c := 6) sS zS rfl
    refine XK.ret1 rfl rfl fun w1 st => ⟨⟨_, rfl, g15, rfl, fun q2 hp2 hf2 => ?_⟩, st.below (by simp)⟩
    have Lq := near_le (p0 := p0) st (by simp : qs ∈ _) Ns (((le0.trans' E17).trans' Ls)) hp2 hf2
    have hall := all2_iter q2 g15 6 6 _ [⟨130, [.pointer (some ⟨c0, 0, none⟩), .pointer (some ⟨d0, 0, none⟩), .pointer (some ⟨e0, 0, none⟩), .pointer (some ⟨f0, 0, none⟩)], stepL 17 4 (fun _ => 1) (moreL (dl) fd td)⟩, ⟨130, [.pointer (some ⟨c1, 0, none⟩), .pointer (some ⟨d1, 0, none⟩), .pointer (some ⟨e1, 0, none⟩), .pointer (some ⟨f1, 0, none⟩)], stepL 20 7 (fun _ => 1) (moreL (cl) fc tc)⟩, ⟨130, [.pointer (some ⟨c2, 0, none⟩), .pointer (some ⟨d2, 0, none⟩), .pointer (some ⟨e2, 0, none⟩), .pointer (some ⟨f2, 0, none⟩)], stepL 22 4 (fun _ => 0) (moreL (ll) fl tl)⟩, ⟨130, [.pointer (some ⟨c3, 0, none⟩), .pointer (some ⟨d3, 0, none⟩), .pointer (some ⟨e3, 0, none⟩), .pointer (some ⟨f3, 0, none⟩)], stepL 22 4 (fun _ => 1) (moreL (ll) tl fl)⟩, ⟨130, [.pointer (some ⟨c4, 0, none⟩), .pointer (some ⟨d4, 0, none⟩), .pointer (some ⟨e4, 0, none⟩), .pointer (some ⟨f4, 0, none⟩)], stepL 20 7 (fun _ => 0) (moreL (cl.reverse) tc fc)⟩, ⟨130, [.pointer (some ⟨c5, 0, none⟩), .pointer (some ⟨d5, 0, none⟩), .pointer (some ⟨e5, 0, none⟩), .pointer (some ⟨f5, 0, none⟩)], stepL 17 4 (retV s) (moreL (dl.reverse) td fd)⟩] (r15.le Lq) (rS.le Lq) rfl (by omega) (fun r hr => by
      simp only [List.mem_cons, List.not_mem_nil, or_false] at hr
      rcases hr with rfl | rfl | rfl | rfl | rfl | rfl
      · exact ⟨by kernel_rfl, by have h := st0.le (((((((((((((((L4.trans' L5).trans' L6).trans' L7).trans' L8).trans' L9).trans' L10).trans' L11).trans' L12).trans' L13).trans' L14).trans' L15).trans' L16).trans' L17).trans' Ls).trans' Lq); rw [stepCells_eq] at h; exact h⟩
      · exact ⟨by kernel_rfl, by have h := st1.le ((((((((((((L7.trans' L8).trans' L9).trans' L10).trans' L11).trans' L12).trans' L13).trans' L14).trans' L15).trans' L16).trans' L17).trans' Ls).trans' Lq); rw [stepCells_eq] at h; exact h⟩
      · exact ⟨by kernel_rfl, by have h := st2.le (((((((((L10.trans' L11).trans' L12).trans' L13).trans' L14).trans' L15).trans' L16).trans' L17).trans' Ls).trans' Lq); rw [stepCells_eq] at h; exact h⟩
      · exact ⟨by kernel_rfl, by have h := st3.le ((((((L13.trans' L14).trans' L15).trans' L16).trans' L17).trans' Ls).trans' Lq); rw [stepCells_eq] at h; exact h⟩
      · exact ⟨by kernel_rfl, by have h := st4.le (((L16.trans' L17).trans' Ls).trans' Lq); rw [stepCells_eq] at h; exact h⟩
      · exact ⟨by kernel_rfl, by have h := st5.le (((Piece.Le.refl _).trans' Ls).trans' Lq); rw [stepCells_eq] at h; exact h⟩)
    simpa [rowsL, allL] using hall
  | some g15 =>
    dsimp only [emM, hmM, lmM, fmM]
    refine xk_slice (el := 111) (sz := 1) (zs := [.nilFunc]) (by kernel_rfl) (zeroB_of (by kernel_rfl)) (by kernel_rfl) rfl (by decide) (by decide) rfl (by simp [fillL, setN, Value.cells, List.range_succ, List.set]; rfl) (by decide) fun gS => ?_
    refine XK.nil ?_; refine XK.thenN ?_; refine XA.back (fun _ h => h.tail.tail.tailR) ?_
    refine XA.next 50 rfl (by kernel_rfl) ?_
    (first | (refine xk_store 0 rfl (by kernel_rfl) rfl rfl rfl (by first | (simp; done) | (simp [Value.cells]; done)) ?_) | (refine xk_store 1 rfl (by kernel_rfl) rfl rfl rfl (by first | (simp; done) | (simp [Value.cells]; done)) ?_) | (refine xk_store 2 rfl (by kernel_rfl) rfl rfl rfl (by first | (simp; done) | (simp [Value.cells]; done)) ?_) | (refine xk_store 3 rfl (by kernel_rfl) rfl rfl rfl (by first | (simp; done) | (simp [Value.cells]; done)) ?_) | (refine xk_store 4 rfl (by kernel_rfl) rfl rfl rfl (by first | (simp; done) | (simp [Value.cells]; done)) ?_) | (refine xk_store 5 rfl (by kernel_rfl) rfl rfl rfl (by first | (simp; done) | (simp [Value.cells]; done)) ?_) | (refine xk_store 6 rfl (by kernel_rfl) rfl rfl rfl (by first | (simp; done) | (simp [Value.cells]; done)) ?_) | (refine xk_store 7 rfl (by kernel_rfl) rfl rfl rfl (by first | (simp; done) | (simp [Value.cells]; done)) ?_) | (refine xk_store 8 rfl (by kernel_rfl) rfl rfl rfl (by first | (simp; done) | (simp [Value.cells]; done)) ?_)); dsimp only [List.set]
    refine XK.nil ?_; refine XK.thenN ?_; refine XA.backT rfl ?_
    refine XA.done (by kernel_rfl) ?_
    (repeat (first | refine XK.thenN ?_ | refine XK.thenE ?_ | refine XK.thenR ?_ | refine XK.inN ?_ | refine XK.inE ?_ | refine XK.inR ?_ | refine XK.inF rfl ?_))
    refine XK.seq ?_
    refine XK.region ?_
    refine xk_func (vf := []) (vc := [.pointer (some ⟨g15, 0, none⟩)]) rfl rfl (by decide) ?_
    refine xk_assign rfl (by decide) ?_
    refine XK.nil ?_
    (repeat (first | refine XK.thenN ?_ | refine XK.thenE ?_ | refine XK.thenR ?_ | refine XK.inN ?_ | refine XK.inE ?_ | refine XK.inR ?_ | refine XK.inF rfl ?_))
    refine XK.ret ?_
    (repeat (first | refine XK.thenN ?_ | refine XK.thenE ?_ | refine XK.thenR ?_ | refine XK.inN ?_ | refine XK.inE ?_ | refine XK.inR ?_ | refine XK.inF rfl ?_))
    refine XK.stillP p0 q17 [0, 1] [] (by simp) (by simp) N17 rfl (by decide) (by decide) fun qs hqs Ls Ns => ?_
    have r15 := RP.of_blk (o := 0) (hqs 1 _ (by simp) rfl) rfl
    obtain ⟨FS, sS, zS⟩ := hqs 0 _ (by simp) rfl
    have rS := SlS.of_blk (n := 6) (sz := 1) (c := 6) sS zS rfl
    refine XK.ret1 rfl rfl fun w1 st => ⟨⟨_, rfl, g15, rfl, fun q2 hp2 hf2 => ?_⟩, st.below (by simp)⟩
    have Lq := near_le (p0 := p0) st (by simp : qs ∈ _) Ns (((le0.trans' E17).trans' Ls)) hp2 hf2
    have hall := all2_iter q2 g15 6 6 _ [⟨130, [.pointer (some ⟨c0, 0, none⟩), .pointer (some ⟨d0, 0, none⟩), .pointer (some ⟨e0, 0, none⟩), .pointer (some ⟨f0, 0, none⟩)], stepL 17 4 (fun _ => 1) (moreL (dl) fd td)⟩, ⟨130, [.pointer (some ⟨c1, 0, none⟩), .pointer (some ⟨d1, 0, none⟩), .pointer (some ⟨e1, 0, none⟩), .pointer (some ⟨f1, 0, none⟩)], stepL 20 7 (fun _ => 1) (moreL (cl) fc tc)⟩, ⟨130, [.pointer (some ⟨c2, 0, none⟩), .pointer (some ⟨d2, 0, none⟩), .pointer (some ⟨e2, 0, none⟩), .pointer (some ⟨f2, 0, none⟩)], stepL 22 4 (fun _ => 0) (moreL (ll) fl tl)⟩, ⟨130, [.pointer (some ⟨c3, 0, none⟩), .pointer (some ⟨d3, 0, none⟩), .pointer (some ⟨e3, 0, none⟩), .pointer (some ⟨f3, 0, none⟩)], stepL 22 4 (fun _ => 1) (moreL (ll) tl fl)⟩, ⟨130, [.pointer (some ⟨c4, 0, none⟩), .pointer (some ⟨d4, 0, none⟩), .pointer (some ⟨e4, 0, none⟩), .pointer (some ⟨f4, 0, none⟩)], stepL 20 7 (fun _ => 0) (moreL (cl.reverse) tc fc)⟩, ⟨130, [.pointer (some ⟨c5, 0, none⟩), .pointer (some ⟨d5, 0, none⟩), .pointer (some ⟨e5, 0, none⟩), .pointer (some ⟨f5, 0, none⟩)], stepL 17 4 (retV s) (moreL (dl.reverse) td fd)⟩] (r15.le Lq) (rS.le Lq) rfl (by omega) (fun r hr => by
      simp only [List.mem_cons, List.not_mem_nil, or_false] at hr
      rcases hr with rfl | rfl | rfl | rfl | rfl | rfl
      · exact ⟨by kernel_rfl, by have h := st0.le (((((((((((((((L4.trans' L5).trans' L6).trans' L7).trans' L8).trans' L9).trans' L10).trans' L11).trans' L12).trans' L13).trans' L14).trans' L15).trans' L16).trans' L17).trans' Ls).trans' Lq); rw [stepCells_eq] at h; exact h⟩
      · exact ⟨by kernel_rfl, by have h := st1.le ((((((((((((L7.trans' L8).trans' L9).trans' L10).trans' L11).trans' L12).trans' L13).trans' L14).trans' L15).trans' L16).trans' L17).trans' Ls).trans' Lq); rw [stepCells_eq] at h; exact h⟩
      · exact ⟨by kernel_rfl, by have h := st2.le (((((((((L10.trans' L11).trans' L12).trans' L13).trans' L14).trans' L15).trans' L16).trans' L17).trans' Ls).trans' Lq); rw [stepCells_eq] at h; exact h⟩
      · exact ⟨by kernel_rfl, by have h := st3.le ((((((L13.trans' L14).trans' L15).trans' L16).trans' L17).trans' Ls).trans' Lq); rw [stepCells_eq] at h; exact h⟩
      · exact ⟨by kernel_rfl, by have h := st4.le (((L16.trans' L17).trans' Ls).trans' Lq); rw [stepCells_eq] at h; exact h⟩
      · exact ⟨by kernel_rfl, by have h := st5.le (((Piece.Le.refl _).trans' Ls).trans' Lq); rw [stepCells_eq] at h; exact h⟩)
    simpa [rowsL, allL] using hall
end Go.Proofs.Ytbgibbbggajgaaa
