/- chapter 20's laws: their helpers. -/
import Derived.Test.YtbgibbbggajgaaaAudL
import Derived.Test.YtbgibbbggajgaaaChip20
import Derived.Test.YtbgibbbggajgaaaSlices
namespace Go.Proofs.Ytbgibbbggajgaaa
set_option linter.all false
open Go.RowKit

theorem front_any (a b k : Int) (w : World) (hf : frontP a b k) :
    Calls Try.prog 33 #[.int .i64 a, .int .i64 b, .int .i64 k] w (Rt (.bool true) w) := by
  refine XK.enter (vs := [.int .i64 a, .int .i64 b, .int .i64 k]) Try.func33 rfl Try.ntmps33 (by simp) ?_
  refine XK.seq ?_

  refine XK.region ?_
  refine xk_assign rfl (by decide) ?_
  refine XK.nil ?_
  (repeat (first | refine XK.thenN ?_ | refine XK.thenE ?_ | refine XK.thenR ?_ | refine XK.inN ?_ | refine XK.inE ?_ | refine XK.inR ?_ | refine XK.inF rfl ?_))
  refine XK.seq ?_
  refine XK.seq ?_

  refine XK.region ?_
  refine xk_move rfl (by decide) ?_
  refine xk_geq rfl rfl (by decide) ?_
  refine XK.nil ?_
  (repeat (first | refine XK.thenN ?_ | refine XK.thenE ?_ | refine XK.thenR ?_ | refine XK.inN ?_ | refine XK.inE ?_ | refine XK.inR ?_ | refine XK.inF rfl ?_))
  refine XK.if_ rfl (fun h => ?_) (fun h => ?_)
  ·
    refine XK.seq ?_

    refine XK.region ?_
    refine xk_move rfl (by decide) ?_
    refine xk_move rfl (by decide) ?_
    refine xk_eql rfl rfl (by decide) ?_
    refine xk_move rfl (by decide) ?_
    (first | refine xk_split (t := 12) rfl (fun hg => ?_) (fun hg => ?_) | refine xk_splitB (t := 12) rfl (fun hg => ?_) (fun hg => ?_))
    ·
      refine xk_guardT rfl rfl ?_; refine xk_move rfl (by decide) ?_
      refine xk_guardT rfl rfl ?_; refine xk_move rfl (by decide) ?_
      refine xk_guardT rfl rfl ?_; refine xk_lss rfl rfl (by decide) ?_
      (first | refine xk_pickT rfl rfl (by decide) ?_ | refine xk_pickF rfl rfl (by decide) ?_)
      refine xk_assign rfl (by decide) ?_
      refine XK.nil ?_
      (repeat (first | refine XK.thenN ?_ | refine XK.thenE ?_ | refine XK.thenR ?_ | refine XK.inN ?_ | refine XK.inE ?_ | refine XK.inR ?_ | refine XK.inF rfl ?_))
      refine XK.ret ?_
      (repeat (first | refine XK.thenN ?_ | refine XK.thenE ?_ | refine XK.thenR ?_ | refine XK.inN ?_ | refine XK.inE ?_ | refine XK.inR ?_ | refine XK.inF rfl ?_))
      refine XK.ret1 rfl rfl fun w1 st => ⟨?_, st.below (by simp)⟩
      refine congrArg _ (congrArg _ ?_)
      unfold frontP at hf
      simp_all; try omega
    ·
      refine xk_guardF rfl rfl rfl (by decide) ?_
      refine xk_guardF rfl rfl rfl (by decide) ?_
      refine xk_guardF rfl rfl rfl (by decide) ?_
      (first | refine xk_pickT rfl rfl (by decide) ?_ | refine xk_pickF rfl rfl (by decide) ?_)
      refine xk_assign rfl (by decide) ?_
      refine XK.nil ?_
      (repeat (first | refine XK.thenN ?_ | refine XK.thenE ?_ | refine XK.thenR ?_ | refine XK.inN ?_ | refine XK.inE ?_ | refine XK.inR ?_ | refine XK.inF rfl ?_))
      refine XK.ret ?_
      (repeat (first | refine XK.thenN ?_ | refine XK.thenE ?_ | refine XK.thenR ?_ | refine XK.inN ?_ | refine XK.inE ?_ | refine XK.inR ?_ | refine XK.inF rfl ?_))
      refine XK.ret1 rfl rfl fun w1 st => ⟨?_, st.below (by simp)⟩
      refine congrArg _ (congrArg _ ?_)
      unfold frontP at hf
      simp_all; try omega
  ·
    refine XK.skip ?_
    (repeat (first | refine XK.thenN ?_ | refine XK.thenE ?_ | refine XK.thenR ?_ | refine XK.inN ?_ | refine XK.inE ?_ | refine XK.inR ?_ | refine XK.inF rfl ?_))
    refine XK.seq ?_

    refine XK.region ?_
    refine xk_move rfl (by decide) ?_
    refine xk_eql rfl rfl (by decide) ?_
    refine xk_move rfl (by decide) ?_
    (first | refine xk_split (t := 19) rfl (fun hg => ?_) (fun hg => ?_) | refine xk_splitB (t := 19) rfl (fun hg => ?_) (fun hg => ?_))
    ·
      refine xk_guardT rfl rfl ?_; refine xk_move rfl (by decide) ?_
      refine xk_guardT rfl rfl ?_; refine xk_eql rfl rfl (by decide) ?_
      refine xk_guardT rfl rfl ?_; refine xk_move rfl (by decide) ?_
      (first | refine xk_split (t := 22) rfl (fun hg => ?_) (fun hg => ?_) | refine xk_splitB (t := 22) rfl (fun hg => ?_) (fun hg => ?_))
      ·
        refine xk_guardF rfl rfl rfl (by decide) ?_
        refine xk_guardF rfl rfl rfl (by decide) ?_
        refine xk_guardF rfl rfl rfl (by decide) ?_
        refine xk_guardT rfl rfl ?_; (first | refine xk_pickT rfl rfl (by decide) ?_ | refine xk_pickF rfl rfl (by decide) ?_)
        (first | refine xk_pickT rfl rfl (by decide) ?_ | refine xk_pickF rfl rfl (by decide) ?_)
        refine xk_assign rfl (by decide) ?_
        refine XK.nil ?_
        (repeat (first | refine XK.thenN ?_ | refine XK.thenE ?_ | refine XK.thenR ?_ | refine XK.inN ?_ | refine XK.inE ?_ | refine XK.inR ?_ | refine XK.inF rfl ?_))
        refine XK.ret ?_
        (repeat (first | refine XK.thenN ?_ | refine XK.thenE ?_ | refine XK.thenR ?_ | refine XK.inN ?_ | refine XK.inE ?_ | refine XK.inR ?_ | refine XK.inF rfl ?_))
        refine XK.ret1 rfl rfl fun w1 st => ⟨?_, st.below (by simp)⟩
        refine congrArg _ (congrArg _ ?_)
        unfold frontP at hf
        simp_all; try omega
      ·
        refine xk_guardT rfl rfl ?_; refine xk_move rfl (by decide) ?_
        refine xk_guardT rfl rfl ?_; refine xk_move rfl (by decide) ?_
        refine xk_guardT rfl rfl ?_; refine xk_geq rfl rfl (by decide) ?_
        refine xk_guardT rfl rfl ?_; (first | refine xk_pickT rfl rfl (by decide) ?_ | refine xk_pickF rfl rfl (by decide) ?_)
        (first | refine xk_pickT rfl rfl (by decide) ?_ | refine xk_pickF rfl rfl (by decide) ?_)
        refine xk_assign rfl (by decide) ?_
        refine XK.nil ?_
        (repeat (first | refine XK.thenN ?_ | refine XK.thenE ?_ | refine XK.thenR ?_ | refine XK.inN ?_ | refine XK.inE ?_ | refine XK.inR ?_ | refine XK.inF rfl ?_))
        refine XK.ret ?_
        (repeat (first | refine XK.thenN ?_ | refine XK.thenE ?_ | refine XK.thenR ?_ | refine XK.inN ?_ | refine XK.inE ?_ | refine XK.inR ?_ | refine XK.inF rfl ?_))
        refine XK.ret1 rfl rfl fun w1 st => ⟨?_, st.below (by simp)⟩
        refine congrArg _ (congrArg _ ?_)
        unfold frontP at hf
        simp_all; try omega
    ·
      refine xk_guardF rfl rfl rfl (by decide) ?_
      refine xk_guardF rfl rfl rfl (by decide) ?_
      refine xk_guardF rfl rfl rfl (by decide) ?_
      refine xk_guardU rfl rfl (by decide) ?_
      refine xk_guardU rfl rfl (by decide) ?_
      refine xk_guardU rfl rfl (by decide) ?_
      refine xk_guardF rfl rfl rfl (by decide) ?_
      (first | refine xk_pickT rfl rfl (by decide) ?_ | refine xk_pickF rfl rfl (by decide) ?_)
      refine xk_assign rfl (by decide) ?_
      refine XK.nil ?_
      (repeat (first | refine XK.thenN ?_ | refine XK.thenE ?_ | refine XK.thenR ?_ | refine XK.inN ?_ | refine XK.inE ?_ | refine XK.inR ?_ | refine XK.inF rfl ?_))
      refine XK.ret ?_
      (repeat (first | refine XK.thenN ?_ | refine XK.thenE ?_ | refine XK.thenR ?_ | refine XK.inN ?_ | refine XK.inE ?_ | refine XK.inR ?_ | refine XK.inF rfl ?_))
      refine XK.ret1 rfl rfl fun w1 st => ⟨?_, st.below (by simp)⟩
      refine congrArg _ (congrArg _ ?_)
      unfold frontP at hf
      simp_all; try omega

theorem moved_any (a k : Int) (w : World) (ha : -1 ≤ a ∧ a ≤ 1000000) :
    Calls Try.prog 35 #[.int .i64 a, .int .i64 k] w (Rt (.int .i64 (movedF a k)) w) := by
  refine XK.enter (vs := [.int .i64 a, .int .i64 k]) Try.func35 rfl Try.ntmps35 (by simp) ?_
  refine XK.seq ?_

  refine XK.region ?_
  refine xk_assign rfl (by decide) ?_
  refine XK.nil ?_
  (repeat (first | refine XK.thenN ?_ | refine XK.thenE ?_ | refine XK.thenR ?_ | refine XK.inN ?_ | refine XK.inE ?_ | refine XK.inR ?_ | refine XK.inF rfl ?_))
  refine XK.seq ?_
  refine XK.seq ?_

  refine XK.region ?_
  refine xk_move rfl (by decide) ?_
  refine xk_move rfl (by decide) ?_
  refine xk_geq rfl rfl (by decide) ?_
  refine XK.nil ?_
  (repeat (first | refine XK.thenN ?_ | refine XK.thenE ?_ | refine XK.thenR ?_ | refine XK.inN ?_ | refine XK.inE ?_ | refine XK.inR ?_ | refine XK.inF rfl ?_))
  refine XK.if_ rfl (fun h => ?_) (fun h => ?_)
  ·
    refine XK.seq ?_

    refine XK.region ?_
    refine xk_move rfl (by decide) ?_
    refine xk_add rfl rfl (wrap_in (by omega)) (by decide) ?_
    refine xk_assign rfl (by decide) ?_
    refine XK.nil ?_
    (repeat (first | refine XK.thenN ?_ | refine XK.thenE ?_ | refine XK.thenR ?_ | refine XK.inN ?_ | refine XK.inE ?_ | refine XK.inR ?_ | refine XK.inF rfl ?_))
    refine XK.ret ?_
    (repeat (first | refine XK.thenN ?_ | refine XK.thenE ?_ | refine XK.thenR ?_ | refine XK.inN ?_ | refine XK.inE ?_ | refine XK.inR ?_ | refine XK.inF rfl ?_))
    exact XK.ret1 rfl rfl fun w1 st => ⟨by rw [movedF, if_pos h], st.below (by simp)⟩
  ·
    refine XK.skip ?_
    (repeat (first | refine XK.thenN ?_ | refine XK.thenE ?_ | refine XK.thenR ?_ | refine XK.inN ?_ | refine XK.inE ?_ | refine XK.inR ?_ | refine XK.inF rfl ?_))
    refine XK.seq ?_

    refine XK.region ?_
    refine xk_move rfl (by decide) ?_
    refine xk_assign rfl (by decide) ?_
    refine XK.nil ?_
    (repeat (first | refine XK.thenN ?_ | refine XK.thenE ?_ | refine XK.thenR ?_ | refine XK.inN ?_ | refine XK.inE ?_ | refine XK.inR ?_ | refine XK.inF rfl ?_))
    refine XK.ret ?_
    (repeat (first | refine XK.thenN ?_ | refine XK.thenE ?_ | refine XK.thenR ?_ | refine XK.inN ?_ | refine XK.inE ?_ | refine XK.inR ?_ | refine XK.inF rfl ?_))
    exact XK.ret1 rfl rfl fun w1 st => ⟨by rw [movedF, if_neg h], st.below (by simp)⟩

end Go.Proofs.Ytbgibbbggajgaaa
