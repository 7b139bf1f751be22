/- conf: what is right of a clock, a domain, a reset line, a device, and of how many there are. -/
import Derived.Test.YtbgibbbggajgaaaConf1
namespace Go.Proofs.Ytbgibbbggajgaaa
set_option linter.all false
open Go.RowKit

def shapeB (kind : Int) (n : Nat) : Bool := if kind = 111 then decide (n = 0) else if kind = 112 ∨ kind = 100 ∨ kind = 103 then decide (n = 1) else if kind = 109 then withinB n 1 4 else false
def numbersB (kind rate mul div lock : Int) : Bool :=
  if kind = 111 then decide (1 ≤ rate) && decide (rate ≤ 1099511627776) else if kind = 112 then withinB mul 1 1000 && withinB div 1 1000 && withinB lock 0 20 else if kind = 100 then withinB div 1 1000 else true
def clockE (n1 : Nat) (c : Clk) : Int := firstE [whenE (!shapeB c.kind c.src.length) 1, firstE (c.src.map fun f => whenE (!withinB f 0 ((n1 : Int) - 1)) 4), whenE (!numbersB c.kind c.rate c.mul c.div c.lock) 3]
def domainE (n2 : Nat) (d : Dom) : Int := firstE [whenE (decide (¬ d.above = -1) && !withinB d.above 0 ((n2 : Int) - 1)) 4, whenE (!withinB d.delay 0 20) 3]
def resetE (r : Int) : Int := whenE (!withinB r 0 20) 3
def deviceE (n1 n2 n3 n4 : Nat) (d : Dev) : Int :=
  firstE [whenE (!withinB d.clock 0 ((n1 : Int) - 1)) 4, whenE (!withinB d.domain 0 ((n2 : Int) - 1)) 4, whenE (!withinB d.reset 0 ((n3 : Int) - 1)) 4, firstE (d.needs.map fun f => whenE (!withinB f 0 ((n4 : Int) - 1)) 4)]
def manyE (d : Dev) : Int := whenE (decide ((8 : Int) < d.regs.length) || decide ((6 : Int) < d.needs.length)) 8
theorem flat1 (l : List Value) : (l.map fun v => [v]).flatten = l := by induction l <;> simp_all

theorem shape_any (kind rate mul div lock : Int) (A : Option Addr) (n k : Nat) (w : World) :
    Calls Try.prog 115 #[.agg #[.int .u8 kind, .slice A n k, .int .u64 rate, .int .i64 mul, .int .i64 div, .int .i64 lock]] w (Rt (.bool (shapeB kind n)) w) := by
  refine XK.enter (vs := [.agg #[.int .u8 kind, .slice A n k, .int .u64 rate, .int .i64 mul, .int .i64 div, .int .i64 lock]]) Try.func115 rfl Try.ntmps115 (by simp) ?_
  refine XK.seq ?_

  refine XK.region ?_
  refine xk_box rfl (by decide) fun g1 => ?_
  refine xk_assign rfl (by decide) ?_
  refine XK.nil ?_
  (repeat (first | refine XK.thenN ?_ | refine XK.thenE ?_ | refine XK.thenR ?_ | refine XK.inN ?_ | refine XK.inE ?_ | refine XK.inR ?_ | refine XK.inF rfl ?_))
  refine XK.seq ?_
  refine XK.seq ?_

  refine XK.region ?_
  refine xk_field (off := 0) (by kernel_rfl) rfl (by decide) ?_
  refine xk_load (by kernel_rfl) rfl (by first | assumption | exact Rd.blk 0 rfl rfl | exact Rd.blk 1 rfl rfl | exact Rd.blk 2 rfl rfl | exact Rd.blk 3 rfl rfl | exact Rd.blk 4 rfl rfl | exact Rd.blk 5 rfl rfl | exact Rd.blk 6 rfl rfl | exact Rd.blk 7 rfl rfl | exact Rd.blk 8 rfl rfl | exact Rd.roc (by simp) (by assumption) | (apply Rd.rocN (by simp); assumption; rfl)) (by decide) ?_
  refine XK.nil ?_
  (repeat (first | refine XK.thenN ?_ | refine XK.thenE ?_ | refine XK.thenR ?_ | refine XK.inN ?_ | refine XK.inE ?_ | refine XK.inR ?_ | refine XK.inF rfl ?_))
  refine XK.block ?_
  refine XK.seq ?_

  refine XK.region ?_
  refine xk_eql rfl rfl (by decide) ?_
  refine xk_assign rfl (by decide) ?_
  refine XK.nil ?_
  (repeat (first | refine XK.thenN ?_ | refine XK.thenE ?_ | refine XK.thenR ?_ | refine XK.inN ?_ | refine XK.inE ?_ | refine XK.inR ?_ | refine XK.inF rfl ?_))
  refine XK.if_ rfl (fun h => ?_) (fun h => ?_)
  ·
    refine XK.seq ?_

    refine XK.region ?_
    refine xk_field (off := 1) (by kernel_rfl) rfl (by decide) ?_
    refine xk_load (by kernel_rfl) rfl (by first | assumption | exact Rd.blk 0 rfl rfl | exact Rd.blk 1 rfl rfl | exact Rd.blk 2 rfl rfl | exact Rd.blk 3 rfl rfl | exact Rd.blk 4 rfl rfl | exact Rd.blk 5 rfl rfl | exact Rd.blk 6 rfl rfl | exact Rd.blk 7 rfl rfl | exact Rd.blk 8 rfl rfl | exact Rd.roc (by simp) (by assumption) | (apply Rd.rocN (by simp); assumption; rfl)) (by decide) ?_
    refine xk_len (el := 3) (by kernel_rfl) rfl (by decide) ?_
    refine xk_eql rfl rfl (by decide) ?_
    refine xk_assign rfl (by decide) ?_
    refine XK.nil ?_
    (repeat (first | refine XK.thenN ?_ | refine XK.thenE ?_ | refine XK.thenR ?_ | refine XK.inN ?_ | refine XK.inE ?_ | refine XK.inR ?_ | refine XK.inF rfl ?_))
    refine XK.ret ?_
    (repeat (first | refine XK.thenN ?_ | refine XK.thenE ?_ | refine XK.thenR ?_ | refine XK.inN ?_ | refine XK.inE ?_ | refine XK.inR ?_ | refine XK.inF rfl ?_))
    exact XK.ret1 rfl rfl fun w1 st => ⟨by first | (exfalso; omega) | (simp [shapeB, *]; done) | (simp [shapeB, *]; omega), st.below (by simp)⟩
  ·
    refine XK.seq ?_
    refine XK.seq ?_

    refine XK.region ?_
    refine xk_eql rfl rfl (by decide) ?_
    refine xk_assign rfl (by decide) ?_
    refine XK.nil ?_
    (repeat (first | refine XK.thenN ?_ | refine XK.thenE ?_ | refine XK.thenR ?_ | refine XK.inN ?_ | refine XK.inE ?_ | refine XK.inR ?_ | refine XK.inF rfl ?_))
    refine XK.if_ rfl (fun h => ?_) (fun h => ?_)
    ·
      refine XK.skip ?_
      (repeat (first | refine XK.thenN ?_ | refine XK.thenE ?_ | refine XK.thenR ?_ | refine XK.inN ?_ | refine XK.inE ?_ | refine XK.inR ?_ | refine XK.inF rfl ?_))
      refine XK.if_ rfl (fun h => ?_) (fun h => ?_)
      ·
        refine XK.seq ?_

        refine XK.region ?_
        refine xk_field (off := 1) (by kernel_rfl) rfl (by decide) ?_
        refine xk_load (by kernel_rfl) rfl (by first | assumption | exact Rd.blk 0 rfl rfl | exact Rd.blk 1 rfl rfl | exact Rd.blk 2 rfl rfl | exact Rd.blk 3 rfl rfl | exact Rd.blk 4 rfl rfl | exact Rd.blk 5 rfl rfl | exact Rd.blk 6 rfl rfl | exact Rd.blk 7 rfl rfl | exact Rd.blk 8 rfl rfl | exact Rd.roc (by simp) (by assumption) | (apply Rd.rocN (by simp); assumption; rfl)) (by decide) ?_
        refine xk_len (el := 3) (by kernel_rfl) rfl (by decide) ?_
        refine xk_eql rfl rfl (by decide) ?_
        refine xk_assign rfl (by decide) ?_
        refine XK.nil ?_
        (repeat (first | refine XK.thenN ?_ | refine XK.thenE ?_ | refine XK.thenR ?_ | refine XK.inN ?_ | refine XK.inE ?_ | refine XK.inR ?_ | refine XK.inF rfl ?_))
        refine XK.ret ?_
        (repeat (first | refine XK.thenN ?_ | refine XK.thenE ?_ | refine XK.thenR ?_ | refine XK.inN ?_ | refine XK.inE ?_ | refine XK.inR ?_ | refine XK.inF rfl ?_))
        exact XK.ret1 rfl rfl fun w1 st => ⟨by first | (exfalso; omega) | (simp [shapeB, *]; done) | (simp [shapeB, *]; omega), st.below (by simp)⟩
      ·
        refine XK.seq ?_

        refine XK.region ?_
        refine xk_eql rfl rfl (by decide) ?_
        refine xk_assign rfl (by decide) ?_
        refine XK.nil ?_
        (repeat (first | refine XK.thenN ?_ | refine XK.thenE ?_ | refine XK.thenR ?_ | refine XK.inN ?_ | refine XK.inE ?_ | refine XK.inR ?_ | refine XK.inF rfl ?_))
        refine XK.if_ rfl (fun h => ?_) (fun h => ?_)
        ·
          refine XK.seq ?_

          refine XK.region ?_
          refine xk_field (off := 1) (by kernel_rfl) rfl (by decide) ?_
          refine xk_load (by kernel_rfl) rfl (by first | assumption | exact Rd.blk 0 rfl rfl | exact Rd.blk 1 rfl rfl | exact Rd.blk 2 rfl rfl | exact Rd.blk 3 rfl rfl | exact Rd.blk 4 rfl rfl | exact Rd.blk 5 rfl rfl | exact Rd.blk 6 rfl rfl | exact Rd.blk 7 rfl rfl | exact Rd.blk 8 rfl rfl | exact Rd.roc (by simp) (by assumption) | (apply Rd.rocN (by simp); assumption; rfl)) (by decide) ?_
          refine xk_len (el := 3) (by kernel_rfl) rfl (by decide) ?_
          refine xk_callR (f := 119) (fi := []) (ca := []) (by kernel_rfl) rfl rfl (by decide) (fun w1 st => within_any _ _ _ w1) ?_
          refine xk_assign rfl (by decide) ?_
          refine XK.nil ?_
          (repeat (first | refine XK.thenN ?_ | refine XK.thenE ?_ | refine XK.thenR ?_ | refine XK.inN ?_ | refine XK.inE ?_ | refine XK.inR ?_ | refine XK.inF rfl ?_))
          refine XK.ret ?_
          (repeat (first | refine XK.thenN ?_ | refine XK.thenE ?_ | refine XK.thenR ?_ | refine XK.inN ?_ | refine XK.inE ?_ | refine XK.inR ?_ | refine XK.inF rfl ?_))
          exact XK.ret1 rfl rfl fun w1 st => ⟨by first | (exfalso; omega) | (simp [shapeB, *]; done) | (simp [shapeB, *]; omega), st.below (by simp)⟩
        ·
          refine XK.skip ?_
          (repeat (first | refine XK.thenN ?_ | refine XK.thenE ?_ | refine XK.thenR ?_ | refine XK.inN ?_ | refine XK.inE ?_ | refine XK.inR ?_ | refine XK.inF rfl ?_))
          refine XK.seq ?_

          refine XK.region ?_
          refine xk_assign rfl (by decide) ?_
          refine XK.nil ?_
          (repeat (first | refine XK.thenN ?_ | refine XK.thenE ?_ | refine XK.thenR ?_ | refine XK.inN ?_ | refine XK.inE ?_ | refine XK.inR ?_ | refine XK.inF rfl ?_))
          refine XK.ret ?_
          (repeat (first | refine XK.thenN ?_ | refine XK.thenE ?_ | refine XK.thenR ?_ | refine XK.inN ?_ | refine XK.inE ?_ | refine XK.inR ?_ | refine XK.inF rfl ?_))
          exact XK.ret1 rfl rfl fun w1 st => ⟨by first | (exfalso; omega) | (simp [shapeB, *]; done) | (simp [shapeB, *]; omega), st.below (by simp)⟩
    ·
      refine XK.seq ?_

      refine XK.region ?_
      refine xk_eql rfl rfl (by decide) ?_
      refine xk_assign rfl (by decide) ?_
      refine XK.nil ?_
      (repeat (first | refine XK.thenN ?_ | refine XK.thenE ?_ | refine XK.thenR ?_ | refine XK.inN ?_ | refine XK.inE ?_ | refine XK.inR ?_ | refine XK.inF rfl ?_))
      refine XK.if_ rfl (fun h => ?_) (fun h => ?_)
      ·
        refine XK.skip ?_
        (repeat (first | refine XK.thenN ?_ | refine XK.thenE ?_ | refine XK.thenR ?_ | refine XK.inN ?_ | refine XK.inE ?_ | refine XK.inR ?_ | refine XK.inF rfl ?_))
        refine XK.if_ rfl (fun h => ?_) (fun h => ?_)
        ·
          refine XK.seq ?_

          refine XK.region ?_
          refine xk_field (off := 1) (by kernel_rfl) rfl (by decide) ?_
          refine xk_load (by kernel_rfl) rfl (by first | assumption | exact Rd.blk 0 rfl rfl | exact Rd.blk 1 rfl rfl | exact Rd.blk 2 rfl rfl | exact Rd.blk 3 rfl rfl | exact Rd.blk 4 rfl rfl | exact Rd.blk 5 rfl rfl | exact Rd.blk 6 rfl rfl | exact Rd.blk 7 rfl rfl | exact Rd.blk 8 rfl rfl | exact Rd.roc (by simp) (by assumption) | (apply Rd.rocN (by simp); assumption; rfl)) (by decide) ?_
          refine xk_len (el := 3) (by kernel_rfl) rfl (by decide) ?_
          refine xk_eql rfl rfl (by decide) ?_
          refine xk_assign rfl (by decide) ?_
          refine XK.nil ?_
          (repeat (first | refine XK.thenN ?_ | refine XK.thenE ?_ | refine XK.thenR ?_ | refine XK.inN ?_ | refine XK.inE ?_ | refine XK.inR ?_ | refine XK.inF rfl ?_))
          refine XK.ret ?_
          (repeat (first | refine XK.thenN ?_ | refine XK.thenE ?_ | refine XK.thenR ?_ | refine XK.inN ?_ | refine XK.inE ?_ | refine XK.inR ?_ | refine XK.inF rfl ?_))
          exact XK.ret1 rfl rfl fun w1 st => ⟨by first | (exfalso; omega) | (simp [shapeB, *]; done) | (simp [shapeB, *]; omega), st.below (by simp)⟩
        ·
          refine XK.seq ?_

          refine XK.region ?_
          refine xk_eql rfl rfl (by decide) ?_
          refine xk_assign rfl (by decide) ?_
          refine XK.nil ?_
          (repeat (first | refine XK.thenN ?_ | refine XK.thenE ?_ | refine XK.thenR ?_ | refine XK.inN ?_ | refine XK.inE ?_ | refine XK.inR ?_ | refine XK.inF rfl ?_))
          refine XK.if_ rfl (fun h => ?_) (fun h => ?_)
          ·
            refine XK.seq ?_

            refine XK.region ?_
            refine xk_field (off := 1) (by kernel_rfl) rfl (by decide) ?_
            refine xk_load (by kernel_rfl) rfl (by first | assumption | exact Rd.blk 0 rfl rfl | exact Rd.blk 1 rfl rfl | exact Rd.blk 2 rfl rfl | exact Rd.blk 3 rfl rfl | exact Rd.blk 4 rfl rfl | exact Rd.blk 5 rfl rfl | exact Rd.blk 6 rfl rfl | exact Rd.blk 7 rfl rfl | exact Rd.blk 8 rfl rfl | exact Rd.roc (by simp) (by assumption) | (apply Rd.rocN (by simp); assumption; rfl)) (by decide) ?_
            refine xk_len (el := 3) (by kernel_rfl) rfl (by decide) ?_
            refine xk_callR (f := 119) (fi := []) (ca := []) (by kernel_rfl) rfl rfl (by decide) (fun w1 st => within_any _ _ _ w1) ?_
            refine xk_assign rfl (by decide) ?_
            refine XK.nil ?_
            (repeat (first | refine XK.thenN ?_ | refine XK.thenE ?_ | refine XK.thenR ?_ | refine XK.inN ?_ | refine XK.inE ?_ | refine XK.inR ?_ | refine XK.inF rfl ?_))
            refine XK.ret ?_
            (repeat (first | refine XK.thenN ?_ | refine XK.thenE ?_ | refine XK.thenR ?_ | refine XK.inN ?_ | refine XK.inE ?_ | refine XK.inR ?_ | refine XK.inF rfl ?_))
            exact XK.ret1 rfl rfl fun w1 st => ⟨by first | (exfalso; omega) | (simp [shapeB, *]; done) | (simp [shapeB, *]; omega), st.below (by simp)⟩
          ·
            refine XK.skip ?_
            (repeat (first | refine XK.thenN ?_ | refine XK.thenE ?_ | refine XK.thenR ?_ | refine XK.inN ?_ | refine XK.inE ?_ | refine XK.inR ?_ | refine XK.inF rfl ?_))
            refine XK.seq ?_

            refine XK.region ?_
            refine xk_assign rfl (by decide) ?_
            refine XK.nil ?_
            (repeat (first | refine XK.thenN ?_ | refine XK.thenE ?_ | refine XK.thenR ?_ | refine XK.inN ?_ | refine XK.inE ?_ | refine XK.inR ?_ | refine XK.inF rfl ?_))
            refine XK.ret ?_
            (repeat (first | refine XK.thenN ?_ | refine XK.thenE ?_ | refine XK.thenR ?_ | refine XK.inN ?_ | refine XK.inE ?_ | refine XK.inR ?_ | refine XK.inF rfl ?_))
            exact XK.ret1 rfl rfl fun w1 st => ⟨by first | (exfalso; omega) | (simp [shapeB, *]; done) | (simp [shapeB, *]; omega), st.below (by simp)⟩
      ·

        refine XK.region ?_
        refine xk_eql rfl rfl (by decide) ?_
        refine xk_assign rfl (by decide) ?_
        refine XK.nil ?_
        (repeat (first | refine XK.thenN ?_ | refine XK.thenE ?_ | refine XK.thenR ?_ | refine XK.inN ?_ | refine XK.inE ?_ | refine XK.inR ?_ | refine XK.inF rfl ?_))
        refine XK.if_ rfl (fun h => ?_) (fun h => ?_)
        ·
          refine XK.seq ?_

          refine XK.region ?_
          refine xk_field (off := 1) (by kernel_rfl) rfl (by decide) ?_
          refine xk_load (by kernel_rfl) rfl (by first | assumption | exact Rd.blk 0 rfl rfl | exact Rd.blk 1 rfl rfl | exact Rd.blk 2 rfl rfl | exact Rd.blk 3 rfl rfl | exact Rd.blk 4 rfl rfl | exact Rd.blk 5 rfl rfl | exact Rd.blk 6 rfl rfl | exact Rd.blk 7 rfl rfl | exact Rd.blk 8 rfl rfl | exact Rd.roc (by simp) (by assumption) | (apply Rd.rocN (by simp); assumption; rfl)) (by decide) ?_
          refine xk_len (el := 3) (by kernel_rfl) rfl (by decide) ?_
          refine xk_eql rfl rfl (by decide) ?_
          refine xk_assign rfl (by decide) ?_
          refine XK.nil ?_
          (repeat (first | refine XK.thenN ?_ | refine XK.thenE ?_ | refine XK.thenR ?_ | refine XK.inN ?_ | refine XK.inE ?_ | refine XK.inR ?_ | refine XK.inF rfl ?_))
          refine XK.ret ?_
          (repeat (first | refine XK.thenN ?_ | refine XK.thenE ?_ | refine XK.thenR ?_ | refine XK.inN ?_ | refine XK.inE ?_ | refine XK.inR ?_ | refine XK.inF rfl ?_))
          exact XK.ret1 rfl rfl fun w1 st => ⟨by first | (exfalso; omega) | (simp [shapeB, *]; done) | (simp [shapeB, *]; omega), st.below (by simp)⟩
        ·
          refine XK.seq ?_

          refine XK.region ?_
          refine xk_eql rfl rfl (by decide) ?_
          refine xk_assign rfl (by decide) ?_
          refine XK.nil ?_
          (repeat (first | refine XK.thenN ?_ | refine XK.thenE ?_ | refine XK.thenR ?_ | refine XK.inN ?_ | refine XK.inE ?_ | refine XK.inR ?_ | refine XK.inF rfl ?_))
          refine XK.if_ rfl (fun h => ?_) (fun h => ?_)
          ·
            refine XK.seq ?_

            refine XK.region ?_
            refine xk_field (off := 1) (by kernel_rfl) rfl (by decide) ?_
            refine xk_load (by kernel_rfl) rfl (by first | assumption | exact Rd.blk 0 rfl rfl | exact Rd.blk 1 rfl rfl | exact Rd.blk 2 rfl rfl | exact Rd.blk 3 rfl rfl | exact Rd.blk 4 rfl rfl | exact Rd.blk 5 rfl rfl | exact Rd.blk 6 rfl rfl | exact Rd.blk 7 rfl rfl | exact Rd.blk 8 rfl rfl | exact Rd.roc (by simp) (by assumption) | (apply Rd.rocN (by simp); assumption; rfl)) (by decide) ?_
            refine xk_len (el := 3) (by kernel_rfl) rfl (by decide) ?_
            refine xk_callR (f := 119) (fi := []) (ca := []) (by kernel_rfl) rfl rfl (by decide) (fun w1 st => within_any _ _ _ w1) ?_
            refine xk_assign rfl (by decide) ?_
            refine XK.nil ?_
            (repeat (first | refine XK.thenN ?_ | refine XK.thenE ?_ | refine XK.thenR ?_ | refine XK.inN ?_ | refine XK.inE ?_ | refine XK.inR ?_ | refine XK.inF rfl ?_))
            refine XK.ret ?_
            (repeat (first | refine XK.thenN ?_ | refine XK.thenE ?_ | refine XK.thenR ?_ | refine XK.inN ?_ | refine XK.inE ?_ | refine XK.inR ?_ | refine XK.inF rfl ?_))
            exact XK.ret1 rfl rfl fun w1 st => ⟨by first | (exfalso; omega) | (simp [shapeB, *]; done) | (simp [shapeB, *]; omega), st.below (by simp)⟩
          ·
            refine XK.skip ?_
            (repeat (first | refine XK.thenN ?_ | refine XK.thenE ?_ | refine XK.thenR ?_ | refine XK.inN ?_ | refine XK.inE ?_ | refine XK.inR ?_ | refine XK.inF rfl ?_))
            refine XK.seq ?_

            refine XK.region ?_
            refine xk_assign rfl (by decide) ?_
            refine XK.nil ?_
            (repeat (first | refine XK.thenN ?_ | refine XK.thenE ?_ | refine XK.thenR ?_ | refine XK.inN ?_ | refine XK.inE ?_ | refine XK.inR ?_ | refine XK.inF rfl ?_))
            refine XK.ret ?_
            (repeat (first | refine XK.thenN ?_ | refine XK.thenE ?_ | refine XK.thenR ?_ | refine XK.inN ?_ | refine XK.inE ?_ | refine XK.inR ?_ | refine XK.inF rfl ?_))
            exact XK.ret1 rfl rfl fun w1 st => ⟨by first | (exfalso; omega) | (simp [shapeB, *]; done) | (simp [shapeB, *]; omega), st.below (by simp)⟩

theorem numbers_any (kind rate mul div lock : Int) (A : Option Addr) (n k : Nat) (w : World) :
    Calls Try.prog 121 #[.agg #[.int .u8 kind, .slice A n k, .int .u64 rate, .int .i64 mul, .int .i64 div, .int .i64 lock]] w (Rt (.bool (numbersB kind rate mul div lock)) w) := by
  refine XK.enter (vs := [.agg #[.int .u8 kind, .slice A n k, .int .u64 rate, .int .i64 mul, .int .i64 div, .int .i64 lock]]) Try.func121 rfl Try.ntmps121 (by simp) ?_
  refine XK.seq ?_

  refine XK.region ?_
  refine xk_box rfl (by decide) fun g1 => ?_
  refine xk_assign rfl (by decide) ?_
  refine XK.nil ?_
  (repeat (first | refine XK.thenN ?_ | refine XK.thenE ?_ | refine XK.thenR ?_ | refine XK.inN ?_ | refine XK.inE ?_ | refine XK.inR ?_ | refine XK.inF rfl ?_))
  refine XK.seq ?_
  refine XK.seq ?_

  refine XK.region ?_
  refine xk_field (off := 0) (by kernel_rfl) rfl (by decide) ?_
  refine xk_load (by kernel_rfl) rfl (by first | assumption | exact Rd.blk 0 rfl rfl | exact Rd.blk 1 rfl rfl | exact Rd.blk 2 rfl rfl | exact Rd.blk 3 rfl rfl | exact Rd.blk 4 rfl rfl | exact Rd.blk 5 rfl rfl | exact Rd.blk 6 rfl rfl | exact Rd.blk 7 rfl rfl | exact Rd.blk 8 rfl rfl | exact Rd.roc (by simp) (by assumption) | (apply Rd.rocN (by simp); assumption; rfl)) (by decide) ?_
  refine XK.nil ?_
  (repeat (first | refine XK.thenN ?_ | refine XK.thenE ?_ | refine XK.thenR ?_ | refine XK.inN ?_ | refine XK.inE ?_ | refine XK.inR ?_ | refine XK.inF rfl ?_))
  refine XK.block ?_
  refine XK.seq ?_

  refine XK.region ?_
  refine xk_eql rfl rfl (by decide) ?_
  refine xk_assign rfl (by decide) ?_
  refine XK.nil ?_
  (repeat (first | refine XK.thenN ?_ | refine XK.thenE ?_ | refine XK.thenR ?_ | refine XK.inN ?_ | refine XK.inE ?_ | refine XK.inR ?_ | refine XK.inF rfl ?_))
  refine XK.if_ rfl (fun h => ?_) (fun h => ?_)
  ·
    refine XK.seq ?_

    refine XK.region ?_
    refine xk_field (off := 2) (by kernel_rfl) rfl (by decide) ?_
    refine xk_load (by kernel_rfl) rfl (by first | assumption | exact Rd.blk 0 rfl rfl | exact Rd.blk 1 rfl rfl | exact Rd.blk 2 rfl rfl | exact Rd.blk 3 rfl rfl | exact Rd.blk 4 rfl rfl | exact Rd.blk 5 rfl rfl | exact Rd.blk 6 rfl rfl | exact Rd.blk 7 rfl rfl | exact Rd.blk 8 rfl rfl | exact Rd.roc (by simp) (by assumption) | (apply Rd.rocN (by simp); assumption; rfl)) (by decide) ?_
    refine xk_geq rfl rfl (by decide) ?_
    refine xk_move rfl (by decide) ?_
    refine xk_splitB (t := 10) rfl (fun hg => ?_) (fun hg => ?_)
    ·
      refine xk_guardT rfl rfl ?_; refine xk_field (off := 2) (by kernel_rfl) rfl (by decide) ?_
      refine xk_guardT rfl rfl ?_; refine xk_load (by kernel_rfl) rfl (by first | assumption | exact Rd.blk 0 rfl rfl | exact Rd.blk 1 rfl rfl | exact Rd.blk 2 rfl rfl | exact Rd.blk 3 rfl rfl | exact Rd.blk 4 rfl rfl | exact Rd.blk 5 rfl rfl | exact Rd.blk 6 rfl rfl | exact Rd.blk 7 rfl rfl | exact Rd.blk 8 rfl rfl | exact Rd.roc (by simp) (by assumption) | (apply Rd.rocN (by simp); assumption; rfl)) (by decide) ?_
      refine xk_guardT rfl rfl ?_; refine xk_leq rfl rfl (by decide) ?_
      (first | refine xk_pickT rfl rfl (by decide) ?_ | refine xk_pickF rfl rfl (by decide) ?_)
      refine xk_assign rfl (by decide) ?_
      refine XK.nil ?_
      (repeat (first | refine XK.thenN ?_ | refine XK.thenE ?_ | refine XK.thenR ?_ | refine XK.inN ?_ | refine XK.inE ?_ | refine XK.inR ?_ | refine XK.inF rfl ?_))
      refine XK.ret ?_
      (repeat (first | refine XK.thenN ?_ | refine XK.thenE ?_ | refine XK.thenR ?_ | refine XK.inN ?_ | refine XK.inE ?_ | refine XK.inR ?_ | refine XK.inF rfl ?_))
      exact XK.ret1 rfl rfl fun w1 st => ⟨by simp [numbersB, *], st.below (by simp)⟩
    ·
      refine xk_guardF rfl rfl rfl (by decide) ?_
      refine xk_guardF rfl rfl rfl (by decide) ?_
      refine xk_guardF rfl rfl rfl (by decide) ?_
      (first | refine xk_pickT rfl rfl (by decide) ?_ | refine xk_pickF rfl rfl (by decide) ?_)
      refine xk_assign rfl (by decide) ?_
      refine XK.nil ?_
      (repeat (first | refine XK.thenN ?_ | refine XK.thenE ?_ | refine XK.thenR ?_ | refine XK.inN ?_ | refine XK.inE ?_ | refine XK.inR ?_ | refine XK.inF rfl ?_))
      refine XK.ret ?_
      (repeat (first | refine XK.thenN ?_ | refine XK.thenE ?_ | refine XK.thenR ?_ | refine XK.inN ?_ | refine XK.inE ?_ | refine XK.inR ?_ | refine XK.inF rfl ?_))
      exact XK.ret1 rfl rfl fun w1 st => ⟨by simp [numbersB, *], st.below (by simp)⟩
  ·
    refine XK.seq ?_

    refine XK.region ?_
    refine xk_eql rfl rfl (by decide) ?_
    refine xk_assign rfl (by decide) ?_
    refine XK.nil ?_
    (repeat (first | refine XK.thenN ?_ | refine XK.thenE ?_ | refine XK.thenR ?_ | refine XK.inN ?_ | refine XK.inE ?_ | refine XK.inR ?_ | refine XK.inF rfl ?_))
    refine XK.if_ rfl (fun h => ?_) (fun h => ?_)
    ·
      refine XK.seq ?_

      refine XK.region ?_
      refine xk_field (off := 3) (by kernel_rfl) rfl (by decide) ?_
      refine xk_load (by kernel_rfl) rfl (by first | assumption | exact Rd.blk 0 rfl rfl | exact Rd.blk 1 rfl rfl | exact Rd.blk 2 rfl rfl | exact Rd.blk 3 rfl rfl | exact Rd.blk 4 rfl rfl | exact Rd.blk 5 rfl rfl | exact Rd.blk 6 rfl rfl | exact Rd.blk 7 rfl rfl | exact Rd.blk 8 rfl rfl | exact Rd.roc (by simp) (by assumption) | (apply Rd.rocN (by simp); assumption; rfl)) (by decide) ?_
      refine xk_callR (f := 119) (fi := []) (ca := []) (by kernel_rfl) rfl rfl (by decide) (fun w1 st => within_any _ _ _ w1) ?_
      refine xk_move rfl (by decide) ?_
      refine xk_splitB (t := 20) rfl (fun hg => ?_) (fun hg => ?_)
      ·
        refine xk_guardT rfl rfl ?_; refine xk_field (off := 4) (by kernel_rfl) rfl (by decide) ?_
        refine xk_guardT rfl rfl ?_; refine xk_load (by kernel_rfl) rfl (by first | assumption | exact Rd.blk 0 rfl rfl | exact Rd.blk 1 rfl rfl | exact Rd.blk 2 rfl rfl | exact Rd.blk 3 rfl rfl | exact Rd.blk 4 rfl rfl | exact Rd.blk 5 rfl rfl | exact Rd.blk 6 rfl rfl | exact Rd.blk 7 rfl rfl | exact Rd.blk 8 rfl rfl | exact Rd.roc (by simp) (by assumption) | (apply Rd.rocN (by simp); assumption; rfl)) (by decide) ?_
        refine xk_guardT rfl rfl ?_; refine xk_callR (f := 119) (fi := []) (ca := []) (by kernel_rfl) rfl rfl (by decide) (fun w1 st => within_any _ _ _ w1) ?_
        (first | refine xk_pickT rfl rfl (by decide) ?_ | refine xk_pickF rfl rfl (by decide) ?_)
        refine xk_move rfl (by decide) ?_
        refine xk_splitB (t := 25) rfl (fun hg => ?_) (fun hg => ?_)
        ·
          refine xk_guardT rfl rfl ?_; refine xk_field (off := 5) (by kernel_rfl) rfl (by decide) ?_
          refine xk_guardT rfl rfl ?_; refine xk_load (by kernel_rfl) rfl (by first | assumption | exact Rd.blk 0 rfl rfl | exact Rd.blk 1 rfl rfl | exact Rd.blk 2 rfl rfl | exact Rd.blk 3 rfl rfl | exact Rd.blk 4 rfl rfl | exact Rd.blk 5 rfl rfl | exact Rd.blk 6 rfl rfl | exact Rd.blk 7 rfl rfl | exact Rd.blk 8 rfl rfl | exact Rd.roc (by simp) (by assumption) | (apply Rd.rocN (by simp); assumption; rfl)) (by decide) ?_
          refine xk_guardT rfl rfl ?_; refine xk_callR (f := 119) (fi := []) (ca := []) (by kernel_rfl) rfl rfl (by decide) (fun w1 st => within_any _ _ _ w1) ?_
          (first | refine xk_pickT rfl rfl (by decide) ?_ | refine xk_pickF rfl rfl (by decide) ?_)
          refine xk_assign rfl (by decide) ?_
          refine XK.nil ?_
          (repeat (first | refine XK.thenN ?_ | refine XK.thenE ?_ | refine XK.thenR ?_ | refine XK.inN ?_ | refine XK.inE ?_ | refine XK.inR ?_ | refine XK.inF rfl ?_))
          refine XK.ret ?_
          (repeat (first | refine XK.thenN ?_ | refine XK.thenE ?_ | refine XK.thenR ?_ | refine XK.inN ?_ | refine XK.inE ?_ | refine XK.inR ?_ | refine XK.inF rfl ?_))
          exact XK.ret1 rfl rfl fun w1 st => ⟨by simp [numbersB, *], st.below (by simp)⟩
        ·
          refine xk_guardF rfl rfl rfl (by decide) ?_
          refine xk_guardF rfl rfl rfl (by decide) ?_
          refine xk_guardF rfl rfl rfl (by decide) ?_
          (first | refine xk_pickT rfl rfl (by decide) ?_ | refine xk_pickF rfl rfl (by decide) ?_)
          refine xk_assign rfl (by decide) ?_
          refine XK.nil ?_
          (repeat (first | refine XK.thenN ?_ | refine XK.thenE ?_ | refine XK.thenR ?_ | refine XK.inN ?_ | refine XK.inE ?_ | refine XK.inR ?_ | refine XK.inF rfl ?_))
          refine XK.ret ?_
          (repeat (first | refine XK.thenN ?_ | refine XK.thenE ?_ | refine XK.thenR ?_ | refine XK.inN ?_ | refine XK.inE ?_ | refine XK.inR ?_ | refine XK.inF rfl ?_))
          exact XK.ret1 rfl rfl fun w1 st => ⟨by simp [numbersB, *], st.below (by simp)⟩
      ·
        refine xk_guardF rfl rfl rfl (by decide) ?_
        refine xk_guardF rfl rfl rfl (by decide) ?_
        refine xk_guardF rfl rfl rfl (by decide) ?_
        (first | refine xk_pickT rfl rfl (by decide) ?_ | refine xk_pickF rfl rfl (by decide) ?_)
        refine xk_move rfl (by decide) ?_
        refine xk_guardF rfl rfl rfl (by decide) ?_
        refine xk_guardF rfl rfl rfl (by decide) ?_
        refine xk_guardF rfl rfl rfl (by decide) ?_
        (first | refine xk_pickT rfl rfl (by decide) ?_ | refine xk_pickF rfl rfl (by decide) ?_)
        refine xk_assign rfl (by decide) ?_
        refine XK.nil ?_
        (repeat (first | refine XK.thenN ?_ | refine XK.thenE ?_ | refine XK.thenR ?_ | refine XK.inN ?_ | refine XK.inE ?_ | refine XK.inR ?_ | refine XK.inF rfl ?_))
        refine XK.ret ?_
        (repeat (first | refine XK.thenN ?_ | refine XK.thenE ?_ | refine XK.thenR ?_ | refine XK.inN ?_ | refine XK.inE ?_ | refine XK.inR ?_ | refine XK.inF rfl ?_))
        exact XK.ret1 rfl rfl fun w1 st => ⟨by simp [numbersB, *], st.below (by simp)⟩
    ·
      refine XK.seq ?_

      refine XK.region ?_
      refine xk_eql rfl rfl (by decide) ?_
      refine xk_assign rfl (by decide) ?_
      refine XK.nil ?_
      (repeat (first | refine XK.thenN ?_ | refine XK.thenE ?_ | refine XK.thenR ?_ | refine XK.inN ?_ | refine XK.inE ?_ | refine XK.inR ?_ | refine XK.inF rfl ?_))
      refine XK.if_ rfl (fun h => ?_) (fun h => ?_)
      ·
        refine XK.seq ?_

        refine XK.region ?_
        refine xk_field (off := 4) (by kernel_rfl) rfl (by decide) ?_
        refine xk_load (by kernel_rfl) rfl (by first | assumption | exact Rd.blk 0 rfl rfl | exact Rd.blk 1 rfl rfl | exact Rd.blk 2 rfl rfl | exact Rd.blk 3 rfl rfl | exact Rd.blk 4 rfl rfl | exact Rd.blk 5 rfl rfl | exact Rd.blk 6 rfl rfl | exact Rd.blk 7 rfl rfl | exact Rd.blk 8 rfl rfl | exact Rd.roc (by simp) (by assumption) | (apply Rd.rocN (by simp); assumption; rfl)) (by decide) ?_
        refine xk_callR (f := 119) (fi := []) (ca := []) (by kernel_rfl) rfl rfl (by decide) (fun w1 st => within_any _ _ _ w1) ?_
        refine xk_assign rfl (by decide) ?_
        refine XK.nil ?_
        (repeat (first | refine XK.thenN ?_ | refine XK.thenE ?_ | refine XK.thenR ?_ | refine XK.inN ?_ | refine XK.inE ?_ | refine XK.inR ?_ | refine XK.inF rfl ?_))
        refine XK.ret ?_
        (repeat (first | refine XK.thenN ?_ | refine XK.thenE ?_ | refine XK.thenR ?_ | refine XK.inN ?_ | refine XK.inE ?_ | refine XK.inR ?_ | refine XK.inF rfl ?_))
        exact XK.ret1 rfl rfl fun w1 st => ⟨by simp [numbersB, *], st.below (by simp)⟩
      ·
        refine XK.skip ?_
        (repeat (first | refine XK.thenN ?_ | refine XK.thenE ?_ | refine XK.thenR ?_ | refine XK.inN ?_ | refine XK.inE ?_ | refine XK.inR ?_ | refine XK.inF rfl ?_))
        refine XK.seq ?_

        refine XK.region ?_
        refine xk_assign rfl (by decide) ?_
        refine XK.nil ?_
        (repeat (first | refine XK.thenN ?_ | refine XK.thenE ?_ | refine XK.thenR ?_ | refine XK.inN ?_ | refine XK.inE ?_ | refine XK.inR ?_ | refine XK.inF rfl ?_))
        refine XK.ret ?_
        (repeat (first | refine XK.thenN ?_ | refine XK.thenE ?_ | refine XK.thenR ?_ | refine XK.inN ?_ | refine XK.inE ?_ | refine XK.inR ?_ | refine XK.inF rfl ?_))
        exact XK.ret1 rfl rfl fun w1 st => ⟨by simp [numbersB, *], st.below (by simp)⟩

theorem clock_1 (kind rate mul div lock : Int) (A : Option Addr) (n k : Nat) (gc : Nat) (w : World) (hb : ROn w gc 0 [.int .u8 kind, .slice A n k, .int .u64 rate, .int .i64 mul, .int .i64 div, .int .i64 lock]) :
    Calls Try.prog 114 #[.pointer (some ⟨gc, 0, none⟩)] w (Rt (.int .i64 (whenE (!shapeB kind n) 1)) w) := by
  refine XK.enter (vs := [.pointer (some ⟨gc, 0, none⟩)]) Try.func114 rfl Try.ntmps114 (by simp) ?_
  refine XK.seq ?_

  refine XK.region ?_
  refine xk_assign rfl (by decide) ?_
  refine XK.nil ?_
  (repeat (first | refine XK.thenN ?_ | refine XK.thenE ?_ | refine XK.thenR ?_ | refine XK.inN ?_ | refine XK.inE ?_ | refine XK.inR ?_ | refine XK.inF rfl ?_))
  refine XK.seq ?_

  refine XK.region ?_
  refine xk_loadN 6 (by kernel_rfl) rfl (by first | assumption | exact RdN.whole 0 rfl | exact RdN.whole 1 rfl | exact RdN.whole 2 rfl | exact RdN.whole 3 rfl | exact RdN.whole 4 rfl | exact RdN.whole 5 rfl | exact RdN.whole 6 rfl | exact RdN.whole 7 rfl | exact RdN.whole 8 rfl | exact RdN.roc (by simp) (by assumption)) rfl (by decide) ?_
  refine xk_callR (f := 115) (fi := []) (ca := []) (by kernel_rfl) rfl rfl (by decide) (fun w1 st => shape_any _ _ _ _ _ _ _ _ w1) ?_
  (first | refine xk_notD rfl (by decide) ?_ | refine xk_not rfl (by decide) ?_)
  refine xk_callR (f := 113) (fi := []) (ca := []) (by kernel_rfl) rfl rfl (by decide) (fun w1 st => when_any _ _ w1) ?_
  refine xk_assign rfl (by decide) ?_
  refine XK.nil ?_
  (repeat (first | refine XK.thenN ?_ | refine XK.thenE ?_ | refine XK.thenR ?_ | refine XK.inN ?_ | refine XK.inE ?_ | refine XK.inR ?_ | refine XK.inF rfl ?_))
  refine XK.ret ?_
  (repeat (first | refine XK.thenN ?_ | refine XK.thenE ?_ | refine XK.thenR ?_ | refine XK.inN ?_ | refine XK.inE ?_ | refine XK.inR ?_ | refine XK.inF rfl ?_))
  exact XK.ret1 rfl rfl fun w1 st => ⟨rfl, st.below (by simp)⟩

theorem clock_3 (kind rate mul div lock : Int) (A : Option Addr) (n k : Nat) (gc : Nat) (w : World) (hb : ROn w gc 0 [.int .u8 kind, .slice A n k, .int .u64 rate, .int .i64 mul, .int .i64 div, .int .i64 lock]) :
    Calls Try.prog 120 #[.pointer (some ⟨gc, 0, none⟩)] w (Rt (.int .i64 (whenE (!numbersB kind rate mul div lock) 3)) w) := by
  refine XK.enter (vs := [.pointer (some ⟨gc, 0, none⟩)]) Try.func120 rfl Try.ntmps120 (by simp) ?_
  refine XK.seq ?_

  refine XK.region ?_
  refine xk_assign rfl (by decide) ?_
  refine XK.nil ?_
  (repeat (first | refine XK.thenN ?_ | refine XK.thenE ?_ | refine XK.thenR ?_ | refine XK.inN ?_ | refine XK.inE ?_ | refine XK.inR ?_ | refine XK.inF rfl ?_))
  refine XK.seq ?_

  refine XK.region ?_
  refine xk_loadN 6 (by kernel_rfl) rfl (by first | assumption | exact RdN.whole 0 rfl | exact RdN.whole 1 rfl | exact RdN.whole 2 rfl | exact RdN.whole 3 rfl | exact RdN.whole 4 rfl | exact RdN.whole 5 rfl | exact RdN.whole 6 rfl | exact RdN.whole 7 rfl | exact RdN.whole 8 rfl | exact RdN.roc (by simp) (by assumption)) rfl (by decide) ?_
  refine xk_callR (f := 121) (fi := []) (ca := []) (by kernel_rfl) rfl rfl (by decide) (fun w1 st => numbers_any _ _ _ _ _ _ _ _ w1) ?_
  (first | refine xk_notD rfl (by decide) ?_ | refine xk_not rfl (by decide) ?_)
  refine xk_callR (f := 113) (fi := []) (ca := []) (by kernel_rfl) rfl rfl (by decide) (fun w1 st => when_any _ _ w1) ?_
  refine xk_assign rfl (by decide) ?_
  refine XK.nil ?_
  (repeat (first | refine XK.thenN ?_ | refine XK.thenE ?_ | refine XK.thenR ?_ | refine XK.inN ?_ | refine XK.inE ?_ | refine XK.inR ?_ | refine XK.inF rfl ?_))
  refine XK.ret ?_
  (repeat (first | refine XK.thenN ?_ | refine XK.thenE ?_ | refine XK.thenR ?_ | refine XK.inN ?_ | refine XK.inE ?_ | refine XK.inR ?_ | refine XK.inF rfl ?_))
  exact XK.ret1 rfl rfl fun w1 st => ⟨rfl, st.below (by simp)⟩

theorem clock_2_1 (f : Int) (A1 A2 A3 A4 : Option Addr) (n1 k1 n2 k2 n3 k3 n4 k4 : Nat) (gs : Nat) (w : World) (hs : ROn w gs 0 [.slice A1 n1 k1, .slice A2 n2 k2, .slice A3 n3 k3, .slice A4 n4 k4]) (hz1 : (n1 : Int) ≤ 9223372036854775806) :
    Calls Try.prog 118 #[.int .i64 f, .pointer (some ⟨gs, 0, none⟩)] w (Rt (.int .i64 (whenE (!withinB f 0 ((n1 : Int) - 1)) 4)) w) := by
  refine XK.enter (vs := [.int .i64 f, .pointer (some ⟨gs, 0, none⟩)]) Try.func118 rfl Try.ntmps118 (by simp) ?_
  refine XK.seq ?_

  refine XK.region ?_
  refine xk_assign rfl (by decide) ?_
  refine XK.nil ?_
  (repeat (first | refine XK.thenN ?_ | refine XK.thenE ?_ | refine XK.thenR ?_ | refine XK.inN ?_ | refine XK.inE ?_ | refine XK.inR ?_ | refine XK.inF rfl ?_))
  refine XK.seq ?_

  refine XK.region ?_
  refine xk_move rfl (by decide) ?_
  refine xk_field (off := 0) (by kernel_rfl) rfl (by decide) ?_
  refine xk_load (by kernel_rfl) rfl (by first | assumption | exact Rd.blk 0 rfl rfl | exact Rd.blk 1 rfl rfl | exact Rd.blk 2 rfl rfl | exact Rd.blk 3 rfl rfl | exact Rd.blk 4 rfl rfl | exact Rd.blk 5 rfl rfl | exact Rd.blk 6 rfl rfl | exact Rd.blk 7 rfl rfl | exact Rd.blk 8 rfl rfl | exact Rd.roc (by simp) (by assumption) | (apply Rd.rocN (by simp); assumption; rfl)) (by decide) ?_
  refine xk_len (el := 65) (by kernel_rfl) rfl (by decide) ?_
  refine xk_sub rfl rfl (wrap_in (by omega)) (by decide) ?_
  refine xk_callR (f := 119) (fi := []) (ca := []) (by kernel_rfl) rfl rfl (by decide) (fun w1 st => within_any _ _ _ w1) ?_
  (first | refine xk_notD rfl (by decide) ?_ | refine xk_not rfl (by decide) ?_)
  refine xk_callR (f := 113) (fi := []) (ca := []) (by kernel_rfl) rfl rfl (by decide) (fun w1 st => when_any _ _ w1) ?_
  refine xk_assign rfl (by decide) ?_
  refine XK.nil ?_
  (repeat (first | refine XK.thenN ?_ | refine XK.thenE ?_ | refine XK.thenR ?_ | refine XK.inN ?_ | refine XK.inE ?_ | refine XK.inR ?_ | refine XK.inF rfl ?_))
  refine XK.ret ?_
  (repeat (first | refine XK.thenN ?_ | refine XK.thenE ?_ | refine XK.thenR ?_ | refine XK.inN ?_ | refine XK.inE ?_ | refine XK.inR ?_ | refine XK.inF rfl ?_))
  exact XK.ret1 rfl rfl fun w1 st => ⟨rfl, st.below (by simp)⟩

theorem clock_2 (kind rate mul div lock : Int) (A : Option Addr) (n k : Nat) (A1 A2 A3 A4 : Option Addr) (n1 k1 n2 k2 n3 k3 n4 k4 : Nat) (gc gs : Nat) (w : World) (hb : ROn w gc 0 [.int .u8 kind, .slice A n k, .int .u64 rate, .int .i64 mul, .int .i64 div, .int .i64 lock]) (hs : ROn w gs 0 [.slice A1 n1 k1, .slice A2 n2 k2, .slice A3 n3 k3, .slice A4 n4 k4]) (hz1 : (n1 : Int) ≤ 9223372036854775806) (zs : List Int) (hA : SlS (all w) 1 A n (intCells zs)) (hn : n = zs.length) (hz : (n : Int) ≤ 9223372036854775806) :
    Calls Try.prog 116 #[.pointer (some ⟨gc, 0, none⟩), .pointer (some ⟨gs, 0, none⟩)] w (Rt (.int .i64 (firstE (zs.map fun f => whenE (!withinB f 0 ((n1 : Int) - 1)) 4))) w) := by
  refine XK.enter (vs := [.pointer (some ⟨gc, 0, none⟩), .pointer (some ⟨gs, 0, none⟩)]) Try.func116 rfl Try.ntmps116 (by simp) ?_
  refine XK.seq ?_

  refine XK.region ?_
  refine xk_assign rfl (by decide) ?_
  refine XK.nil ?_
  (repeat (first | refine XK.thenN ?_ | refine XK.thenE ?_ | refine XK.thenR ?_ | refine XK.inN ?_ | refine XK.inE ?_ | refine XK.inR ?_ | refine XK.inF rfl ?_))
  refine XK.seq ?_

  refine XK.region ?_
  refine xk_field (off := 1) (by kernel_rfl) rfl (by decide) ?_
  refine xk_load (by kernel_rfl) rfl (by first | assumption | exact Rd.blk 0 rfl rfl | exact Rd.blk 1 rfl rfl | exact Rd.blk 2 rfl rfl | exact Rd.blk 3 rfl rfl | exact Rd.blk 4 rfl rfl | exact Rd.blk 5 rfl rfl | exact Rd.blk 6 rfl rfl | exact Rd.blk 7 rfl rfl | exact Rd.blk 8 rfl rfl | exact Rd.roc (by simp) (by assumption) | (apply Rd.rocN (by simp); assumption; rfl)) (by decide) ?_
  refine xk_func (vf := []) (vc := [.pointer (some ⟨gs, 0, none⟩)]) rfl rfl (by decide) ?_
  refine xk_callR (f := 117) (fi := []) (ca := []) (by kernel_rfl) rfl rfl (by decide) (fun w1 st => each_int _ _ _ 118 [.pointer (some ⟨gs, 0, none⟩)] ((intCells zs).map fun v => [v]) (zs.map fun f => whenE (!withinB f 0 ((n1 : Int) - 1)) 4) w1 (by rw [flat1]; exact hA.le (all_le (st.started (by simp)))) (by simp) (by simp [intCells]; omega) (by simp; omega) (by omega) (by kernel_rfl) (fun i r x hr hx w2 hb2 => by
    obtain ⟨f, hf, rfl⟩ : ∃ f, zs[i]? = some f ∧ r = [.int .i64 f] := by
      rw [List.getElem?_map, intCells, List.getElem?_map] at hr
      cases hq : zs[i]? with
      | none => simp [hq] at hr
      | some f => simp [hq] at hr; exact ⟨f, rfl, hr.symm⟩
    rw [List.getElem?_map, hf] at hx
    cases hx
    exact clock_2_1 f A1 A2 A3 A4 n1 k1 n2 k2 n3 k3 n4 k4 gs w2 ((hs.below (st.started (by simp))).below hb2) hz1)) ?_
  refine xk_assign rfl (by decide) ?_
  refine XK.nil ?_
  (repeat (first | refine XK.thenN ?_ | refine XK.thenE ?_ | refine XK.thenR ?_ | refine XK.inN ?_ | refine XK.inE ?_ | refine XK.inR ?_ | refine XK.inF rfl ?_))
  refine XK.ret ?_
  (repeat (first | refine XK.thenN ?_ | refine XK.thenE ?_ | refine XK.thenR ?_ | refine XK.inN ?_ | refine XK.inE ?_ | refine XK.inR ?_ | refine XK.inF rfl ?_))
  exact XK.ret1 rfl rfl fun w1 st => ⟨rfl, st.below (by simp)⟩

theorem clock_any (kind rate mul div lock : Int) (A : Option Addr) (n k : Nat) (A1 A2 A3 A4 : Option Addr) (n1 k1 n2 k2 n3 k3 n4 k4 : Nat) (w : World) (hz1 : (n1 : Int) ≤ 9223372036854775806) (zs : List Int) (hA : SlS (all w) 1 A n (intCells zs)) (hn : n = zs.length) (hz : (n : Int) ≤ 9223372036854775806) :
    Calls Try.prog 71 #[.agg #[.slice A1 n1 k1, .slice A2 n2 k2, .slice A3 n3 k3, .slice A4 n4 k4], .agg #[.int .u8 kind, .slice A n k, .int .u64 rate, .int .i64 mul, .int .i64 div, .int .i64 lock]] w (Rt (.int .i64 (clockE n1 ⟨kind, zs, rate, mul, div, lock⟩)) w) := by
  refine XK.enter (vs := [.agg #[.slice A1 n1 k1, .slice A2 n2 k2, .slice A3 n3 k3, .slice A4 n4 k4], .agg #[.int .u8 kind, .slice A n k, .int .u64 rate, .int .i64 mul, .int .i64 div, .int .i64 lock]]) Try.func71 rfl Try.ntmps71 (by simp) ?_
  refine XK.seq ?_

  refine XK.region ?_
  refine xk_box rfl (by decide) fun g1 => ?_
  refine xk_box rfl (by decide) fun g2 => ?_
  refine xk_assign rfl (by decide) ?_
  refine XK.nil ?_
  (repeat (first | refine XK.thenN ?_ | refine XK.thenE ?_ | refine XK.thenR ?_ | refine XK.inN ?_ | refine XK.inE ?_ | refine XK.inR ?_ | refine XK.inF rfl ?_))
  refine XK.seq ?_

  refine XK.region ?_
  refine xk_func (vf := []) (vc := [.pointer (some ⟨g2, 0, none⟩)]) rfl rfl (by decide) ?_
  refine xk_func (vf := []) (vc := [.pointer (some ⟨g2, 0, none⟩), .pointer (some ⟨g1, 0, none⟩)]) rfl rfl (by decide) ?_
  refine xk_func (vf := []) (vc := [.pointer (some ⟨g2, 0, none⟩)]) rfl rfl (by decide) ?_
  refine xk_slice (el := 139) (sz := 1) (zs := [.nilFunc]) (by kernel_rfl) (zeroB_of (by kernel_rfl)) (by kernel_rfl) rfl (by decide) (by decide) rfl (by simp [fillL, setN, Value.cells, List.range_succ, List.set]; rfl) (by decide) fun g3 => ?_
  refine xk_callR (f := 65) (fi := []) (ca := []) (by kernel_rfl) rfl rfl (by decide) (fun w1 st => first_any _ _ _ [(114, [.pointer (some ⟨g2, 0, none⟩)]), (116, [.pointer (some ⟨g2, 0, none⟩), .pointer (some ⟨g1, 0, none⟩)]), (120, [.pointer (some ⟨g2, 0, none⟩)])] [whenE (!shapeB kind n) 1, firstE (zs.map fun f => whenE (!withinB f 0 ((n1 : Int) - 1)) 4), whenE (!numbersB kind rate mul div lock) 3] w1 (st.slS (i := 0) (n := 3) (sz := 1) (cs := [.func (.func 114) #[] #[.pointer (some ⟨g2, 0, none⟩)], .func (.func 116) #[] #[.pointer (some ⟨g2, 0, none⟩), .pointer (some ⟨g1, 0, none⟩)], .func (.func 120) #[] #[.pointer (some ⟨g2, 0, none⟩)]]) rfl rfl) rfl rfl (by decide) (by simp only [List.mem_cons, List.not_mem_nil, or_false]; rintro f (rfl | rfl | rfl) <;> kernel_rfl) (fun i f x hf hx w2 hb2 => by
    have hbb := (st.started (by simp)).trans (hb2.mono st.size)
    match i, hf, hx with
    | 0, hf, hx => cases hf; cases hx; exact clock_1 kind rate mul div lock A n k g2 w2 (st.box (cs := [.int .u8 kind, .slice A n k, .int .u64 rate, .int .i64 mul, .int .i64 div, .int .i64 lock]) (i := 1) rfl |>.below hb2)
    | 1, hf, hx => cases hf; cases hx; exact clock_2 kind rate mul div lock A n k A1 A2 A3 A4 n1 k1 n2 k2 n3 k3 n4 k4 g2 g1 w2 (st.box (cs := [.int .u8 kind, .slice A n k, .int .u64 rate, .int .i64 mul, .int .i64 div, .int .i64 lock]) (i := 1) rfl |>.below hb2) (st.box (cs := [.slice A1 n1 k1, .slice A2 n2 k2, .slice A3 n3 k3, .slice A4 n4 k4]) (i := 2) rfl |>.below hb2) hz1 zs (hA.le (all_le hbb)) hn hz
    | 2, hf, hx => cases hf; cases hx; exact clock_3 kind rate mul div lock A n k g2 w2 (st.box (cs := [.int .u8 kind, .slice A n k, .int .u64 rate, .int .i64 mul, .int .i64 div, .int .i64 lock]) (i := 1) rfl |>.below hb2)
    | i + 3, hf, _ => simp at hf)) ?_
  refine xk_assign rfl (by decide) ?_
  refine XK.nil ?_
  (repeat (first | refine XK.thenN ?_ | refine XK.thenE ?_ | refine XK.thenR ?_ | refine XK.inN ?_ | refine XK.inE ?_ | refine XK.inR ?_ | refine XK.inF rfl ?_))
  refine XK.ret ?_
  (repeat (first | refine XK.thenN ?_ | refine XK.thenE ?_ | refine XK.thenR ?_ | refine XK.inN ?_ | refine XK.inE ?_ | refine XK.inR ?_ | refine XK.inF rfl ?_))
  exact XK.ret1 rfl rfl fun w1 st => ⟨by simp [clockE, hn], st.below (by simp)⟩

theorem domain_1 (above delay : Int) (ret : Bool) (A1 A2 A3 A4 : Option Addr) (n1 k1 n2 k2 n3 k3 n4 k4 : Nat) (gd gs : Nat) (w : World) (hd : ROn w gd 0 [.int .i64 above, .int .i64 delay, .bool ret]) (hs : ROn w gs 0 [.slice A1 n1 k1, .slice A2 n2 k2, .slice A3 n3 k3, .slice A4 n4 k4]) (hz2 : (n2 : Int) ≤ 9223372036854775806) :
    Calls Try.prog 123 #[.pointer (some ⟨gd, 0, none⟩), .pointer (some ⟨gs, 0, none⟩)] w (Rt (.int .i64 (whenE (decide (¬ above = -1) && !withinB above 0 ((n2 : Int) - 1)) 4)) w) := by
  refine XK.enter (vs := [.pointer (some ⟨gd, 0, none⟩), .pointer (some ⟨gs, 0, none⟩)]) Try.func123 rfl Try.ntmps123 (by simp) ?_
  refine XK.seq ?_

  refine XK.region ?_
  refine xk_assign rfl (by decide) ?_
  refine XK.nil ?_
  (repeat (first | refine XK.thenN ?_ | refine XK.thenE ?_ | refine XK.thenR ?_ | refine XK.inN ?_ | refine XK.inE ?_ | refine XK.inR ?_ | refine XK.inF rfl ?_))
  refine XK.seq ?_

  refine XK.region ?_
  refine xk_field (off := 0) (by kernel_rfl) rfl (by decide) ?_
  refine xk_load (by kernel_rfl) rfl (by first | assumption | exact Rd.blk 0 rfl rfl | exact Rd.blk 1 rfl rfl | exact Rd.blk 2 rfl rfl | exact Rd.blk 3 rfl rfl | exact Rd.blk 4 rfl rfl | exact Rd.blk 5 rfl rfl | exact Rd.blk 6 rfl rfl | exact Rd.blk 7 rfl rfl | exact Rd.blk 8 rfl rfl | exact Rd.roc (by simp) (by assumption) | (apply Rd.rocN (by simp); assumption; rfl)) (by decide) ?_
  refine xk_neq rfl rfl (by decide) ?_
  refine xk_move rfl (by decide) ?_
  refine xk_split (t := 6) rfl (fun hg => ?_) (fun hg => ?_)
  ·
    refine xk_guardT rfl rfl ?_; refine xk_field (off := 0) (by kernel_rfl) rfl (by decide) ?_
    refine xk_guardT rfl rfl ?_; refine xk_load (by kernel_rfl) rfl (by first | assumption | exact Rd.blk 0 rfl rfl | exact Rd.blk 1 rfl rfl | exact Rd.blk 2 rfl rfl | exact Rd.blk 3 rfl rfl | exact Rd.blk 4 rfl rfl | exact Rd.blk 5 rfl rfl | exact Rd.blk 6 rfl rfl | exact Rd.blk 7 rfl rfl | exact Rd.blk 8 rfl rfl | exact Rd.roc (by simp) (by assumption) | (apply Rd.rocN (by simp); assumption; rfl)) (by decide) ?_
    refine xk_guardT rfl rfl ?_; refine xk_field (off := 1) (by kernel_rfl) rfl (by decide) ?_
    refine xk_guardT rfl rfl ?_; refine xk_load (by kernel_rfl) rfl (by first | assumption | exact Rd.blk 0 rfl rfl | exact Rd.blk 1 rfl rfl | exact Rd.blk 2 rfl rfl | exact Rd.blk 3 rfl rfl | exact Rd.blk 4 rfl rfl | exact Rd.blk 5 rfl rfl | exact Rd.blk 6 rfl rfl | exact Rd.blk 7 rfl rfl | exact Rd.blk 8 rfl rfl | exact Rd.roc (by simp) (by assumption) | (apply Rd.rocN (by simp); assumption; rfl)) (by decide) ?_
    refine xk_guardT rfl rfl ?_; refine xk_len (el := 61) (by kernel_rfl) rfl (by decide) ?_
    refine xk_guardT rfl rfl ?_; refine xk_sub rfl rfl (wrap_in (by omega)) (by decide) ?_
    refine xk_guardT rfl rfl ?_; refine xk_callR (f := 119) (fi := []) (ca := []) (by kernel_rfl) rfl rfl (by decide) (fun w1 st => within_any _ _ _ w1) ?_
    refine xk_guardT rfl rfl ?_; (first | refine xk_notD rfl (by decide) ?_ | refine xk_not rfl (by decide) ?_)
    (first | refine xk_pickT rfl rfl (by decide) ?_ | refine xk_pickF rfl rfl (by decide) ?_)
    refine xk_callR (f := 113) (fi := []) (ca := []) (by kernel_rfl) rfl rfl (by decide) (fun w1 st => when_any _ _ w1) ?_
    refine xk_assign rfl (by decide) ?_
    refine XK.nil ?_
    (repeat (first | refine XK.thenN ?_ | refine XK.thenE ?_ | refine XK.thenR ?_ | refine XK.inN ?_ | refine XK.inE ?_ | refine XK.inR ?_ | refine XK.inF rfl ?_))
    refine XK.ret ?_
    (repeat (first | refine XK.thenN ?_ | refine XK.thenE ?_ | refine XK.thenR ?_ | refine XK.inN ?_ | refine XK.inE ?_ | refine XK.inR ?_ | refine XK.inF rfl ?_))
    exact XK.ret1 rfl rfl fun w1 st => ⟨by simp [hg], st.below (by simp)⟩
  ·
    refine xk_guardF rfl rfl rfl (by decide) ?_
    refine xk_guardF rfl rfl rfl (by decide) ?_
    refine xk_guardF rfl rfl rfl (by decide) ?_
    refine xk_guardF rfl rfl rfl (by decide) ?_
    refine xk_guardF rfl rfl rfl (by decide) ?_
    refine xk_guardF rfl rfl rfl (by decide) ?_
    refine xk_guardF rfl rfl rfl (by decide) ?_
    refine xk_guardF rfl rfl rfl (by decide) ?_
    (first | refine xk_pickT rfl rfl (by decide) ?_ | refine xk_pickF rfl rfl (by decide) ?_)
    refine xk_callR (f := 113) (fi := []) (ca := []) (by kernel_rfl) rfl rfl (by decide) (fun w1 st => when_any _ _ w1) ?_
    refine xk_assign rfl (by decide) ?_
    refine XK.nil ?_
    (repeat (first | refine XK.thenN ?_ | refine XK.thenE ?_ | refine XK.thenR ?_ | refine XK.inN ?_ | refine XK.inE ?_ | refine XK.inR ?_ | refine XK.inF rfl ?_))
    refine XK.ret ?_
    (repeat (first | refine XK.thenN ?_ | refine XK.thenE ?_ | refine XK.thenR ?_ | refine XK.inN ?_ | refine XK.inE ?_ | refine XK.inR ?_ | refine XK.inF rfl ?_))
    exact XK.ret1 rfl rfl fun w1 st => ⟨by simp [hg], st.below (by simp)⟩

theorem domain_2 (above delay : Int) (ret : Bool) (gd : Nat) (w : World) (hd : ROn w gd 0 [.int .i64 above, .int .i64 delay, .bool ret]) :
    Calls Try.prog 124 #[.pointer (some ⟨gd, 0, none⟩)] w (Rt (.int .i64 (whenE (!withinB delay 0 20) 3)) w) := by
  refine XK.enter (vs := [.pointer (some ⟨gd, 0, none⟩)]) Try.func124 rfl Try.ntmps124 (by simp) ?_
  refine XK.seq ?_

  refine XK.region ?_
  refine xk_assign rfl (by decide) ?_
  refine XK.nil ?_
  (repeat (first | refine XK.thenN ?_ | refine XK.thenE ?_ | refine XK.thenR ?_ | refine XK.inN ?_ | refine XK.inE ?_ | refine XK.inR ?_ | refine XK.inF rfl ?_))
  refine XK.seq ?_

  refine XK.region ?_
  refine xk_field (off := 1) (by kernel_rfl) rfl (by decide) ?_
  refine xk_load (by kernel_rfl) rfl (by first | assumption | exact Rd.blk 0 rfl rfl | exact Rd.blk 1 rfl rfl | exact Rd.blk 2 rfl rfl | exact Rd.blk 3 rfl rfl | exact Rd.blk 4 rfl rfl | exact Rd.blk 5 rfl rfl | exact Rd.blk 6 rfl rfl | exact Rd.blk 7 rfl rfl | exact Rd.blk 8 rfl rfl | exact Rd.roc (by simp) (by assumption) | (apply Rd.rocN (by simp); assumption; rfl)) (by decide) ?_
  refine xk_callR (f := 119) (fi := []) (ca := []) (by kernel_rfl) rfl rfl (by decide) (fun w1 st => within_any _ _ _ w1) ?_
  (first | refine xk_notD rfl (by decide) ?_ | refine xk_not rfl (by decide) ?_)
  refine xk_callR (f := 113) (fi := []) (ca := []) (by kernel_rfl) rfl rfl (by decide) (fun w1 st => when_any _ _ w1) ?_
  refine xk_assign rfl (by decide) ?_
  refine XK.nil ?_
  (repeat (first | refine XK.thenN ?_ | refine XK.thenE ?_ | refine XK.thenR ?_ | refine XK.inN ?_ | refine XK.inE ?_ | refine XK.inR ?_ | refine XK.inF rfl ?_))
  refine XK.ret ?_
  (repeat (first | refine XK.thenN ?_ | refine XK.thenE ?_ | refine XK.thenR ?_ | refine XK.inN ?_ | refine XK.inE ?_ | refine XK.inR ?_ | refine XK.inF rfl ?_))
  exact XK.ret1 rfl rfl fun w1 st => ⟨rfl, st.below (by simp)⟩

theorem domain_any (above delay : Int) (ret : Bool) (A1 A2 A3 A4 : Option Addr) (n1 k1 n2 k2 n3 k3 n4 k4 : Nat) (w : World) (hz2 : (n2 : Int) ≤ 9223372036854775806) :
    Calls Try.prog 77 #[.agg #[.slice A1 n1 k1, .slice A2 n2 k2, .slice A3 n3 k3, .slice A4 n4 k4], .agg #[.int .i64 above, .int .i64 delay, .bool ret]] w (Rt (.int .i64 (domainE n2 ⟨above, delay, ret⟩)) w) := by
  refine XK.enter (vs := [.agg #[.slice A1 n1 k1, .slice A2 n2 k2, .slice A3 n3 k3, .slice A4 n4 k4], .agg #[.int .i64 above, .int .i64 delay, .bool ret]]) Try.func77 rfl Try.ntmps77 (by simp) ?_
  refine XK.seq ?_

  refine XK.region ?_
  refine xk_box rfl (by decide) fun g1 => ?_
  refine xk_box rfl (by decide) fun g2 => ?_
  refine xk_assign rfl (by decide) ?_
  refine XK.nil ?_
  (repeat (first | refine XK.thenN ?_ | refine XK.thenE ?_ | refine XK.thenR ?_ | refine XK.inN ?_ | refine XK.inE ?_ | refine XK.inR ?_ | refine XK.inF rfl ?_))
  refine XK.seq ?_

  refine XK.region ?_
  refine xk_func (vf := []) (vc := [.pointer (some ⟨g2, 0, none⟩), .pointer (some ⟨g1, 0, none⟩)]) rfl rfl (by decide) ?_
  refine xk_func (vf := []) (vc := [.pointer (some ⟨g2, 0, none⟩)]) rfl rfl (by decide) ?_
  refine xk_slice (el := 139) (sz := 1) (zs := [.nilFunc]) (by kernel_rfl) (zeroB_of (by kernel_rfl)) (by kernel_rfl) rfl (by decide) (by decide) rfl (by simp [fillL, setN, Value.cells, List.range_succ, List.set]; rfl) (by decide) fun g3 => ?_
  refine xk_callR (f := 65) (fi := []) (ca := []) (by kernel_rfl) rfl rfl (by decide) (fun w1 st => first_any _ _ _ [(123, [.pointer (some ⟨g2, 0, none⟩), .pointer (some ⟨g1, 0, none⟩)]), (124, [.pointer (some ⟨g2, 0, none⟩)])] [whenE (decide (¬ above = -1) && !withinB above 0 ((n2 : Int) - 1)) 4, whenE (!withinB delay 0 20) 3] w1 (st.slS (i := 0) (n := 2) (sz := 1) (cs := [.func (.func 123) #[] #[.pointer (some ⟨g2, 0, none⟩), .pointer (some ⟨g1, 0, none⟩)], .func (.func 124) #[] #[.pointer (some ⟨g2, 0, none⟩)]]) rfl rfl) rfl rfl (by decide) (by simp only [List.mem_cons, List.not_mem_nil, or_false]; rintro f (rfl | rfl) <;> kernel_rfl) (fun i f x hf hx w2 hb2 => by
    have hbb := (st.started (by simp)).trans (hb2.mono st.size)
    match i, hf, hx with
    | 0, hf, hx => cases hf; cases hx; exact domain_1 above delay ret A1 A2 A3 A4 n1 k1 n2 k2 n3 k3 n4 k4 g2 g1 w2 (st.box (cs := [.int .i64 above, .int .i64 delay, .bool ret]) (i := 1) rfl |>.below hb2) (st.box (cs := [.slice A1 n1 k1, .slice A2 n2 k2, .slice A3 n3 k3, .slice A4 n4 k4]) (i := 2) rfl |>.below hb2) hz2
    | 1, hf, hx => cases hf; cases hx; exact domain_2 above delay ret g2 w2 (st.box (cs := [.int .i64 above, .int .i64 delay, .bool ret]) (i := 1) rfl |>.below hb2)
    | i + 2, hf, _ => simp at hf)) ?_
  refine xk_assign rfl (by decide) ?_
  refine XK.nil ?_
  (repeat (first | refine XK.thenN ?_ | refine XK.thenE ?_ | refine XK.thenR ?_ | refine XK.inN ?_ | refine XK.inE ?_ | refine XK.inR ?_ | refine XK.inF rfl ?_))
  refine XK.ret ?_
  (repeat (first | refine XK.thenN ?_ | refine XK.thenE ?_ | refine XK.thenR ?_ | refine XK.inN ?_ | refine XK.inE ?_ | refine XK.inR ?_ | refine XK.inF rfl ?_))
  exact XK.ret1 rfl rfl fun w1 st => ⟨rfl, st.below (by simp)⟩

theorem reset_any (r : Int) (w : World) :
    Calls Try.prog 81 #[.agg #[.int .i64 r]] w (Rt (.int .i64 (resetE r)) w) := by
  refine XK.enter (vs := [.agg #[.int .i64 r]]) Try.func81 rfl Try.ntmps81 (by simp) ?_
  refine XK.seq ?_

  refine XK.region ?_
  refine xk_box rfl (by decide) fun g1 => ?_
  refine xk_assign rfl (by decide) ?_
  refine XK.nil ?_
  (repeat (first | refine XK.thenN ?_ | refine XK.thenE ?_ | refine XK.thenR ?_ | refine XK.inN ?_ | refine XK.inE ?_ | refine XK.inR ?_ | refine XK.inF rfl ?_))
  refine XK.seq ?_

  refine XK.region ?_
  refine xk_field (off := 0) (by kernel_rfl) rfl (by decide) ?_
  refine xk_load (by kernel_rfl) rfl (by first | assumption | exact Rd.blk 0 rfl rfl | exact Rd.blk 1 rfl rfl | exact Rd.blk 2 rfl rfl | exact Rd.blk 3 rfl rfl | exact Rd.blk 4 rfl rfl | exact Rd.blk 5 rfl rfl | exact Rd.blk 6 rfl rfl | exact Rd.blk 7 rfl rfl | exact Rd.blk 8 rfl rfl | exact Rd.roc (by simp) (by assumption) | (apply Rd.rocN (by simp); assumption; rfl)) (by decide) ?_
  refine xk_callR (f := 119) (fi := []) (ca := []) (by kernel_rfl) rfl rfl (by decide) (fun w1 st => within_any _ _ _ w1) ?_
  (first | refine xk_notD rfl (by decide) ?_ | refine xk_not rfl (by decide) ?_)
  refine xk_callR (f := 113) (fi := []) (ca := []) (by kernel_rfl) rfl rfl (by decide) (fun w1 st => when_any _ _ w1) ?_
  refine xk_assign rfl (by decide) ?_
  refine XK.nil ?_
  (repeat (first | refine XK.thenN ?_ | refine XK.thenE ?_ | refine XK.thenR ?_ | refine XK.inN ?_ | refine XK.inE ?_ | refine XK.inR ?_ | refine XK.inF rfl ?_))
  refine XK.ret ?_
  (repeat (first | refine XK.thenN ?_ | refine XK.thenE ?_ | refine XK.thenR ?_ | refine XK.inN ?_ | refine XK.inE ?_ | refine XK.inR ?_ | refine XK.inF rfl ?_))
  exact XK.ret1 rfl rfl fun w1 st => ⟨rfl, st.below (by simp)⟩

theorem device_1 (clock domain reset clamp : Int) (A B : Option Addr) (n k nb kb : Nat) (A1 A2 A3 A4 : Option Addr) (n1 k1 n2 k2 n3 k3 n4 k4 : Nat) (gd gs : Nat) (w : World) (hd : ROn w gd 0 [.int .i64 clock, .int .i64 domain, .int .i64 reset, .int .u32 clamp, .slice B nb kb, .slice A n k]) (hs : ROn w gs 0 [.slice A1 n1 k1, .slice A2 n2 k2, .slice A3 n3 k3, .slice A4 n4 k4]) (hz1 : (n1 : Int) ≤ 9223372036854775806) :
    Calls Try.prog 125 #[.pointer (some ⟨gd, 0, none⟩), .pointer (some ⟨gs, 0, none⟩)] w (Rt (.int .i64 (whenE (!withinB clock 0 ((n1 : Int) - 1)) 4)) w) := by
  refine XK.enter (vs := [.pointer (some ⟨gd, 0, none⟩), .pointer (some ⟨gs, 0, none⟩)]) Try.func125 rfl Try.ntmps125 (by simp) ?_
  refine XK.seq ?_

  refine XK.region ?_
  refine xk_assign rfl (by decide) ?_
  refine XK.nil ?_
  (repeat (first | refine XK.thenN ?_ | refine XK.thenE ?_ | refine XK.thenR ?_ | refine XK.inN ?_ | refine XK.inE ?_ | refine XK.inR ?_ | refine XK.inF rfl ?_))
  refine XK.seq ?_

  refine XK.region ?_
  refine xk_field (off := 0) (by kernel_rfl) rfl (by decide) ?_
  refine xk_load (by kernel_rfl) rfl (by first | assumption | exact Rd.blk 0 rfl rfl | exact Rd.blk 1 rfl rfl | exact Rd.blk 2 rfl rfl | exact Rd.blk 3 rfl rfl | exact Rd.blk 4 rfl rfl | exact Rd.blk 5 rfl rfl | exact Rd.blk 6 rfl rfl | exact Rd.blk 7 rfl rfl | exact Rd.blk 8 rfl rfl | exact Rd.roc (by simp) (by assumption) | (apply Rd.rocN (by simp); assumption; rfl)) (by decide) ?_
  refine xk_field (off := 0) (by kernel_rfl) rfl (by decide) ?_
  refine xk_load (by kernel_rfl) rfl (by first | assumption | exact Rd.blk 0 rfl rfl | exact Rd.blk 1 rfl rfl | exact Rd.blk 2 rfl rfl | exact Rd.blk 3 rfl rfl | exact Rd.blk 4 rfl rfl | exact Rd.blk 5 rfl rfl | exact Rd.blk 6 rfl rfl | exact Rd.blk 7 rfl rfl | exact Rd.blk 8 rfl rfl | exact Rd.roc (by simp) (by assumption) | (apply Rd.rocN (by simp); assumption; rfl)) (by decide) ?_
  refine xk_len (el := 65) (by kernel_rfl) rfl (by decide) ?_
  refine xk_sub rfl rfl (wrap_in (by omega)) (by decide) ?_
  refine xk_callR (f := 119) (fi := []) (ca := []) (by kernel_rfl) rfl rfl (by decide) (fun w1 st => within_any _ _ _ w1) ?_
  (first | refine xk_notD rfl (by decide) ?_ | refine xk_not rfl (by decide) ?_)
  refine xk_callR (f := 113) (fi := []) (ca := []) (by kernel_rfl) rfl rfl (by decide) (fun w1 st => when_any _ _ w1) ?_
  refine xk_assign rfl (by decide) ?_
  refine XK.nil ?_
  (repeat (first | refine XK.thenN ?_ | refine XK.thenE ?_ | refine XK.thenR ?_ | refine XK.inN ?_ | refine XK.inE ?_ | refine XK.inR ?_ | refine XK.inF rfl ?_))
  refine XK.ret ?_
  (repeat (first | refine XK.thenN ?_ | refine XK.thenE ?_ | refine XK.thenR ?_ | refine XK.inN ?_ | refine XK.inE ?_ | refine XK.inR ?_ | refine XK.inF rfl ?_))
  exact XK.ret1 rfl rfl fun w1 st => ⟨rfl, st.below (by simp)⟩

theorem device_2 (clock domain reset clamp : Int) (A B : Option Addr) (n k nb kb : Nat) (A1 A2 A3 A4 : Option Addr) (n1 k1 n2 k2 n3 k3 n4 k4 : Nat) (gd gs : Nat) (w : World) (hd : ROn w gd 0 [.int .i64 clock, .int .i64 domain, .int .i64 reset, .int .u32 clamp, .slice B nb kb, .slice A n k]) (hs : ROn w gs 0 [.slice A1 n1 k1, .slice A2 n2 k2, .slice A3 n3 k3, .slice A4 n4 k4]) (hz2 : (n2 : Int) ≤ 9223372036854775806) :
    Calls Try.prog 126 #[.pointer (some ⟨gd, 0, none⟩), .pointer (some ⟨gs, 0, none⟩)] w (Rt (.int .i64 (whenE (!withinB domain 0 ((n2 : Int) - 1)) 4)) w) := by
  refine XK.enter (vs := [.pointer (some ⟨gd, 0, none⟩), .pointer (some ⟨gs, 0, none⟩)]) Try.func126 rfl Try.ntmps126 (by simp) ?_
  refine XK.seq ?_

  refine XK.region ?_
  refine xk_assign rfl (by decide) ?_
  refine XK.nil ?_
  (repeat (first | refine XK.thenN ?_ | refine XK.thenE ?_ | refine XK.thenR ?_ | refine XK.inN ?_ | refine XK.inE ?_ | refine XK.inR ?_ | refine XK.inF rfl ?_))
  refine XK.seq ?_

  refine XK.region ?_
  refine xk_field (off := 1) (by kernel_rfl) rfl (by decide) ?_
  refine xk_load (by kernel_rfl) rfl (by first | assumption | exact Rd.blk 0 rfl rfl | exact Rd.blk 1 rfl rfl | exact Rd.blk 2 rfl rfl | exact Rd.blk 3 rfl rfl | exact Rd.blk 4 rfl rfl | exact Rd.blk 5 rfl rfl | exact Rd.blk 6 rfl rfl | exact Rd.blk 7 rfl rfl | exact Rd.blk 8 rfl rfl | exact Rd.roc (by simp) (by assumption) | (apply Rd.rocN (by simp); assumption; rfl)) (by decide) ?_
  refine xk_field (off := 1) (by kernel_rfl) rfl (by decide) ?_
  refine xk_load (by kernel_rfl) rfl (by first | assumption | exact Rd.blk 0 rfl rfl | exact Rd.blk 1 rfl rfl | exact Rd.blk 2 rfl rfl | exact Rd.blk 3 rfl rfl | exact Rd.blk 4 rfl rfl | exact Rd.blk 5 rfl rfl | exact Rd.blk 6 rfl rfl | exact Rd.blk 7 rfl rfl | exact Rd.blk 8 rfl rfl | exact Rd.roc (by simp) (by assumption) | (apply Rd.rocN (by simp); assumption; rfl)) (by decide) ?_
  refine xk_len (el := 61) (by kernel_rfl) rfl (by decide) ?_
  refine xk_sub rfl rfl (wrap_in (by omega)) (by decide) ?_
  refine xk_callR (f := 119) (fi := []) (ca := []) (by kernel_rfl) rfl rfl (by decide) (fun w1 st => within_any _ _ _ w1) ?_
  (first | refine xk_notD rfl (by decide) ?_ | refine xk_not rfl (by decide) ?_)
  refine xk_callR (f := 113) (fi := []) (ca := []) (by kernel_rfl) rfl rfl (by decide) (fun w1 st => when_any _ _ w1) ?_
  refine xk_assign rfl (by decide) ?_
  refine XK.nil ?_
  (repeat (first | refine XK.thenN ?_ | refine XK.thenE ?_ | refine XK.thenR ?_ | refine XK.inN ?_ | refine XK.inE ?_ | refine XK.inR ?_ | refine XK.inF rfl ?_))
  refine XK.ret ?_
  (repeat (first | refine XK.thenN ?_ | refine XK.thenE ?_ | refine XK.thenR ?_ | refine XK.inN ?_ | refine XK.inE ?_ | refine XK.inR ?_ | refine XK.inF rfl ?_))
  exact XK.ret1 rfl rfl fun w1 st => ⟨rfl, st.below (by simp)⟩

theorem device_3 (clock domain reset clamp : Int) (A B : Option Addr) (n k nb kb : Nat) (A1 A2 A3 A4 : Option Addr) (n1 k1 n2 k2 n3 k3 n4 k4 : Nat) (gd gs : Nat) (w : World) (hd : ROn w gd 0 [.int .i64 clock, .int .i64 domain, .int .i64 reset, .int .u32 clamp, .slice B nb kb, .slice A n k]) (hs : ROn w gs 0 [.slice A1 n1 k1, .slice A2 n2 k2, .slice A3 n3 k3, .slice A4 n4 k4]) (hz3 : (n3 : Int) ≤ 9223372036854775806) :
    Calls Try.prog 127 #[.pointer (some ⟨gd, 0, none⟩), .pointer (some ⟨gs, 0, none⟩)] w (Rt (.int .i64 (whenE (!withinB reset 0 ((n3 : Int) - 1)) 4)) w) := by
  refine XK.enter (vs := [.pointer (some ⟨gd, 0, none⟩), .pointer (some ⟨gs, 0, none⟩)]) Try.func127 rfl Try.ntmps127 (by simp) ?_
  refine XK.seq ?_

  refine XK.region ?_
  refine xk_assign rfl (by decide) ?_
  refine XK.nil ?_
  (repeat (first | refine XK.thenN ?_ | refine XK.thenE ?_ | refine XK.thenR ?_ | refine XK.inN ?_ | refine XK.inE ?_ | refine XK.inR ?_ | refine XK.inF rfl ?_))
  refine XK.seq ?_

  refine XK.region ?_
  refine xk_field (off := 2) (by kernel_rfl) rfl (by decide) ?_
  refine xk_load (by kernel_rfl) rfl (by first | assumption | exact Rd.blk 0 rfl rfl | exact Rd.blk 1 rfl rfl | exact Rd.blk 2 rfl rfl | exact Rd.blk 3 rfl rfl | exact Rd.blk 4 rfl rfl | exact Rd.blk 5 rfl rfl | exact Rd.blk 6 rfl rfl | exact Rd.blk 7 rfl rfl | exact Rd.blk 8 rfl rfl | exact Rd.roc (by simp) (by assumption) | (apply Rd.rocN (by simp); assumption; rfl)) (by decide) ?_
  refine xk_field (off := 2) (by kernel_rfl) rfl (by decide) ?_
  refine xk_load (by kernel_rfl) rfl (by first | assumption | exact Rd.blk 0 rfl rfl | exact Rd.blk 1 rfl rfl | exact Rd.blk 2 rfl rfl | exact Rd.blk 3 rfl rfl | exact Rd.blk 4 rfl rfl | exact Rd.blk 5 rfl rfl | exact Rd.blk 6 rfl rfl | exact Rd.blk 7 rfl rfl | exact Rd.blk 8 rfl rfl | exact Rd.roc (by simp) (by assumption) | (apply Rd.rocN (by simp); assumption; rfl)) (by decide) ?_
  refine xk_len (el := 102) (by kernel_rfl) rfl (by decide) ?_
  refine xk_sub rfl rfl (wrap_in (by omega)) (by decide) ?_
  refine xk_callR (f := 119) (fi := []) (ca := []) (by kernel_rfl) rfl rfl (by decide) (fun w1 st => within_any _ _ _ w1) ?_
  (first | refine xk_notD rfl (by decide) ?_ | refine xk_not rfl (by decide) ?_)
  refine xk_callR (f := 113) (fi := []) (ca := []) (by kernel_rfl) rfl rfl (by decide) (fun w1 st => when_any _ _ w1) ?_
  refine xk_assign rfl (by decide) ?_
  refine XK.nil ?_
  (repeat (first | refine XK.thenN ?_ | refine XK.thenE ?_ | refine XK.thenR ?_ | refine XK.inN ?_ | refine XK.inE ?_ | refine XK.inR ?_ | refine XK.inF rfl ?_))
  refine XK.ret ?_
  (repeat (first | refine XK.thenN ?_ | refine XK.thenE ?_ | refine XK.thenR ?_ | refine XK.inN ?_ | refine XK.inE ?_ | refine XK.inR ?_ | refine XK.inF rfl ?_))
  exact XK.ret1 rfl rfl fun w1 st => ⟨rfl, st.below (by simp)⟩

theorem device_4_1 (f : Int) (A1 A2 A3 A4 : Option Addr) (n1 k1 n2 k2 n3 k3 n4 k4 : Nat) (gs : Nat) (w : World) (hs : ROn w gs 0 [.slice A1 n1 k1, .slice A2 n2 k2, .slice A3 n3 k3, .slice A4 n4 k4]) (hz4 : (n4 : Int) ≤ 9223372036854775806) :
    Calls Try.prog 129 #[.int .i64 f, .pointer (some ⟨gs, 0, none⟩)] w (Rt (.int .i64 (whenE (!withinB f 0 ((n4 : Int) - 1)) 4)) w) := by
  refine XK.enter (vs := [.int .i64 f, .pointer (some ⟨gs, 0, none⟩)]) Try.func129 rfl Try.ntmps129 (by simp) ?_
  refine XK.seq ?_

  refine XK.region ?_
  refine xk_assign rfl (by decide) ?_
  refine XK.nil ?_
  (repeat (first | refine XK.thenN ?_ | refine XK.thenE ?_ | refine XK.thenR ?_ | refine XK.inN ?_ | refine XK.inE ?_ | refine XK.inR ?_ | refine XK.inF rfl ?_))
  refine XK.seq ?_

  refine XK.region ?_
  refine xk_move rfl (by decide) ?_
  refine xk_field (off := 3) (by kernel_rfl) rfl (by decide) ?_
  refine xk_load (by kernel_rfl) rfl (by first | assumption | exact Rd.blk 0 rfl rfl | exact Rd.blk 1 rfl rfl | exact Rd.blk 2 rfl rfl | exact Rd.blk 3 rfl rfl | exact Rd.blk 4 rfl rfl | exact Rd.blk 5 rfl rfl | exact Rd.blk 6 rfl rfl | exact Rd.blk 7 rfl rfl | exact Rd.blk 8 rfl rfl | exact Rd.roc (by simp) (by assumption) | (apply Rd.rocN (by simp); assumption; rfl)) (by decide) ?_
  refine xk_len (el := 83) (by kernel_rfl) rfl (by decide) ?_
  refine xk_sub rfl rfl (wrap_in (by omega)) (by decide) ?_
  refine xk_callR (f := 119) (fi := []) (ca := []) (by kernel_rfl) rfl rfl (by decide) (fun w1 st => within_any _ _ _ w1) ?_
  (first | refine xk_notD rfl (by decide) ?_ | refine xk_not rfl (by decide) ?_)
  refine xk_callR (f := 113) (fi := []) (ca := []) (by kernel_rfl) rfl rfl (by decide) (fun w1 st => when_any _ _ w1) ?_
  refine xk_assign rfl (by decide) ?_
  refine XK.nil ?_
  (repeat (first | refine XK.thenN ?_ | refine XK.thenE ?_ | refine XK.thenR ?_ | refine XK.inN ?_ | refine XK.inE ?_ | refine XK.inR ?_ | refine XK.inF rfl ?_))
  refine XK.ret ?_
  (repeat (first | refine XK.thenN ?_ | refine XK.thenE ?_ | refine XK.thenR ?_ | refine XK.inN ?_ | refine XK.inE ?_ | refine XK.inR ?_ | refine XK.inF rfl ?_))
  exact XK.ret1 rfl rfl fun w1 st => ⟨rfl, st.below (by simp)⟩

theorem device_4 (clock domain reset clamp : Int) (A B : Option Addr) (n k nb kb : Nat) (A1 A2 A3 A4 : Option Addr) (n1 k1 n2 k2 n3 k3 n4 k4 : Nat) (gd gs : Nat) (w : World) (hd : ROn w gd 0 [.int .i64 clock, .int .i64 domain, .int .i64 reset, .int .u32 clamp, .slice B nb kb, .slice A n k]) (hs : ROn w gs 0 [.slice A1 n1 k1, .slice A2 n2 k2, .slice A3 n3 k3, .slice A4 n4 k4]) (hz4 : (n4 : Int) ≤ 9223372036854775806) (zs : List Int) (hA : SlS (all w) 1 A n (intCells zs)) (hn : n = zs.length) (hz : (n : Int) ≤ 9223372036854775806) :
    Calls Try.prog 128 #[.pointer (some ⟨gd, 0, none⟩), .pointer (some ⟨gs, 0, none⟩)] w (Rt (.int .i64 (firstE (zs.map fun f => whenE (!withinB f 0 ((n4 : Int) - 1)) 4))) w) := by
  refine XK.enter (vs := [.pointer (some ⟨gd, 0, none⟩), .pointer (some ⟨gs, 0, none⟩)]) Try.func128 rfl Try.ntmps128 (by simp) ?_
  refine XK.seq ?_

  refine XK.region ?_
  refine xk_assign rfl (by decide) ?_
  refine XK.nil ?_
  (repeat (first | refine XK.thenN ?_ | refine XK.thenE ?_ | refine XK.thenR ?_ | refine XK.inN ?_ | refine XK.inE ?_ | refine XK.inR ?_ | refine XK.inF rfl ?_))
  refine XK.seq ?_

  refine XK.region ?_
  refine xk_field (off := 5) (by kernel_rfl) rfl (by decide) ?_
  refine xk_load (by kernel_rfl) rfl (by first | assumption | exact Rd.blk 0 rfl rfl | exact Rd.blk 1 rfl rfl | exact Rd.blk 2 rfl rfl | exact Rd.blk 3 rfl rfl | exact Rd.blk 4 rfl rfl | exact Rd.blk 5 rfl rfl | exact Rd.blk 6 rfl rfl | exact Rd.blk 7 rfl rfl | exact Rd.blk 8 rfl rfl | exact Rd.roc (by simp) (by assumption) | (apply Rd.rocN (by simp); assumption; rfl)) (by decide) ?_
  refine xk_func (vf := []) (vc := [.pointer (some ⟨gs, 0, none⟩)]) rfl rfl (by decide) ?_
  refine xk_callR (f := 117) (fi := []) (ca := []) (by kernel_rfl) rfl rfl (by decide) (fun w1 st => each_int _ _ _ 129 [.pointer (some ⟨gs, 0, none⟩)] ((intCells zs).map fun v => [v]) (zs.map fun f => whenE (!withinB f 0 ((n4 : Int) - 1)) 4) w1 (by rw [flat1]; exact hA.le (all_le (st.started (by simp)))) (by simp) (by simp [intCells]; omega) (by simp; omega) (by omega) (by kernel_rfl) (fun i r x hr hx w2 hb2 => by
    obtain ⟨f, hf, rfl⟩ : ∃ f, zs[i]? = some f ∧ r = [.int .i64 f] := by
      rw [List.getElem?_map, intCells, List.getElem?_map] at hr
      cases hq : zs[i]? with
      | none => simp [hq] at hr
      | some f => simp [hq] at hr; exact ⟨f, rfl, hr.symm⟩
    rw [List.getElem?_map, hf] at hx
    cases hx
    exact device_4_1 f A1 A2 A3 A4 n1 k1 n2 k2 n3 k3 n4 k4 gs w2 ((hs.below (st.started (by simp))).below hb2) hz4)) ?_
  refine xk_assign rfl (by decide) ?_
  refine XK.nil ?_
  (repeat (first | refine XK.thenN ?_ | refine XK.thenE ?_ | refine XK.thenR ?_ | refine XK.inN ?_ | refine XK.inE ?_ | refine XK.inR ?_ | refine XK.inF rfl ?_))
  refine XK.ret ?_
  (repeat (first | refine XK.thenN ?_ | refine XK.thenE ?_ | refine XK.thenR ?_ | refine XK.inN ?_ | refine XK.inE ?_ | refine XK.inR ?_ | refine XK.inF rfl ?_))
  exact XK.ret1 rfl rfl fun w1 st => ⟨rfl, st.below (by simp)⟩

theorem device_any (rg : List Rg) (clock domain reset clamp : Int) (A B : Option Addr) (n k nb kb : Nat) (A1 A2 A3 A4 : Option Addr) (n1 k1 n2 k2 n3 k3 n4 k4 : Nat) (w : World) (hz1 : (n1 : Int) ≤ 9223372036854775806) (hz2 : (n2 : Int) ≤ 9223372036854775806) (hz3 : (n3 : Int) ≤ 9223372036854775806) (hz4 : (n4 : Int) ≤ 9223372036854775806) (zs : List Int) (hA : SlS (all w) 1 A n (intCells zs)) (hn : n = zs.length) (hz : (n : Int) ≤ 9223372036854775806) :
    Calls Try.prog 85 #[.agg #[.slice A1 n1 k1, .slice A2 n2 k2, .slice A3 n3 k3, .slice A4 n4 k4], .agg #[.int .i64 clock, .int .i64 domain, .int .i64 reset, .int .u32 clamp, .slice B nb kb, .slice A n k]] w (Rt (.int .i64 (deviceE n1 n2 n3 n4 ⟨clock, domain, reset, clamp, rg, zs⟩)) w) := by
  refine XK.enter (vs := [.agg #[.slice A1 n1 k1, .slice A2 n2 k2, .slice A3 n3 k3, .slice A4 n4 k4], .agg #[.int .i64 clock, .int .i64 domain, .int .i64 reset, .int .u32 clamp, .slice B nb kb, .slice A n k]]) Try.func85 rfl Try.ntmps85 (by simp) ?_
  refine XK.seq ?_

  refine XK.region ?_
  refine xk_box rfl (by decide) fun g1 => ?_
  refine xk_box rfl (by decide) fun g2 => ?_
  refine xk_assign rfl (by decide) ?_
  refine XK.nil ?_
  (repeat (first | refine XK.thenN ?_ | refine XK.thenE ?_ | refine XK.thenR ?_ | refine XK.inN ?_ | refine XK.inE ?_ | refine XK.inR ?_ | refine XK.inF rfl ?_))
  refine XK.seq ?_

  refine XK.region ?_
  refine xk_func (vf := []) (vc := [.pointer (some ⟨g2, 0, none⟩), .pointer (some ⟨g1, 0, none⟩)]) rfl rfl (by decide) ?_
  refine xk_func (vf := []) (vc := [.pointer (some ⟨g2, 0, none⟩), .pointer (some ⟨g1, 0, none⟩)]) rfl rfl (by decide) ?_
  refine xk_func (vf := []) (vc := [.pointer (some ⟨g2, 0, none⟩), .pointer (some ⟨g1, 0, none⟩)]) rfl rfl (by decide) ?_
  refine xk_func (vf := []) (vc := [.pointer (some ⟨g2, 0, none⟩), .pointer (some ⟨g1, 0, none⟩)]) rfl rfl (by decide) ?_
  refine xk_slice (el := 139) (sz := 1) (zs := [.nilFunc]) (by kernel_rfl) (zeroB_of (by kernel_rfl)) (by kernel_rfl) rfl (by decide) (by decide) rfl (by simp [fillL, setN, Value.cells, List.range_succ, List.set]; rfl) (by decide) fun g3 => ?_
  refine xk_callR (f := 65) (fi := []) (ca := []) (by kernel_rfl) rfl rfl (by decide) (fun w1 st => first_any _ _ _ [(125, [.pointer (some ⟨g2, 0, none⟩), .pointer (some ⟨g1, 0, none⟩)]), (126, [.pointer (some ⟨g2, 0, none⟩), .pointer (some ⟨g1, 0, none⟩)]), (127, [.pointer (some ⟨g2, 0, none⟩), .pointer (some ⟨g1, 0, none⟩)]), (128, [.pointer (some ⟨g2, 0, none⟩), .pointer (some ⟨g1, 0, none⟩)])] [whenE (!withinB clock 0 ((n1 : Int) - 1)) 4, whenE (!withinB domain 0 ((n2 : Int) - 1)) 4, whenE (!withinB reset 0 ((n3 : Int) - 1)) 4, firstE (zs.map fun f => whenE (!withinB f 0 ((n4 : Int) - 1)) 4)] w1 (st.slS (i := 0) (n := 4) (sz := 1) (cs := [.func (.func 125) #[] #[.pointer (some ⟨g2, 0, none⟩), .pointer (some ⟨g1, 0, none⟩)], .func (.func 126) #[] #[.pointer (some ⟨g2, 0, none⟩), .pointer (some ⟨g1, 0, none⟩)], .func (.func 127) #[] #[.pointer (some ⟨g2, 0, none⟩), .pointer (some ⟨g1, 0, none⟩)], .func (.func 128) #[] #[.pointer (some ⟨g2, 0, none⟩), .pointer (some ⟨g1, 0, none⟩)]]) rfl rfl) rfl rfl (by decide) (by simp only [List.mem_cons, List.not_mem_nil, or_false]; rintro f (rfl | rfl | rfl | rfl) <;> kernel_rfl) (fun i f x hf hx w2 hb2 => by
    have hbb := (st.started (by simp)).trans (hb2.mono st.size)
    match i, hf, hx with
    | 0, hf, hx => cases hf; cases hx; exact device_1 clock domain reset clamp A B n k nb kb A1 A2 A3 A4 n1 k1 n2 k2 n3 k3 n4 k4 g2 g1 w2 (st.box (cs := [.int .i64 clock, .int .i64 domain, .int .i64 reset, .int .u32 clamp, .slice B nb kb, .slice A n k]) (i := 1) rfl |>.below hb2) (st.box (cs := [.slice A1 n1 k1, .slice A2 n2 k2, .slice A3 n3 k3, .slice A4 n4 k4]) (i := 2) rfl |>.below hb2) hz1
    | 1, hf, hx => cases hf; cases hx; exact device_2 clock domain reset clamp A B n k nb kb A1 A2 A3 A4 n1 k1 n2 k2 n3 k3 n4 k4 g2 g1 w2 (st.box (cs := [.int .i64 clock, .int .i64 domain, .int .i64 reset, .int .u32 clamp, .slice B nb kb, .slice A n k]) (i := 1) rfl |>.below hb2) (st.box (cs := [.slice A1 n1 k1, .slice A2 n2 k2, .slice A3 n3 k3, .slice A4 n4 k4]) (i := 2) rfl |>.below hb2) hz2
    | 2, hf, hx => cases hf; cases hx; exact device_3 clock domain reset clamp A B n k nb kb A1 A2 A3 A4 n1 k1 n2 k2 n3 k3 n4 k4 g2 g1 w2 (st.box (cs := [.int .i64 clock, .int .i64 domain, .int .i64 reset, .int .u32 clamp, .slice B nb kb, .slice A n k]) (i := 1) rfl |>.below hb2) (st.box (cs := [.slice A1 n1 k1, .slice A2 n2 k2, .slice A3 n3 k3, .slice A4 n4 k4]) (i := 2) rfl |>.below hb2) hz3
    | 3, hf, hx => cases hf; cases hx; exact device_4 clock domain reset clamp A B n k nb kb A1 A2 A3 A4 n1 k1 n2 k2 n3 k3 n4 k4 g2 g1 w2 (st.box (cs := [.int .i64 clock, .int .i64 domain, .int .i64 reset, .int .u32 clamp, .slice B nb kb, .slice A n k]) (i := 1) rfl |>.below hb2) (st.box (cs := [.slice A1 n1 k1, .slice A2 n2 k2, .slice A3 n3 k3, .slice A4 n4 k4]) (i := 2) rfl |>.below hb2) hz4 zs (hA.le (all_le hbb)) hn hz
    | i + 4, hf, _ => simp at hf)) ?_
  refine xk_assign rfl (by decide) ?_
  refine XK.nil ?_
  (repeat (first | refine XK.thenN ?_ | refine XK.thenE ?_ | refine XK.thenR ?_ | refine XK.inN ?_ | refine XK.inE ?_ | refine XK.inR ?_ | refine XK.inF rfl ?_))
  refine XK.ret ?_
  (repeat (first | refine XK.thenN ?_ | refine XK.thenE ?_ | refine XK.thenR ?_ | refine XK.inN ?_ | refine XK.inE ?_ | refine XK.inR ?_ | refine XK.inF rfl ?_))
  exact XK.ret1 rfl rfl fun w1 st => ⟨rfl, st.below (by simp)⟩

theorem full_1 (rg : List Rg) (zs : List Int) (clock domain reset clamp : Int) (A B : Option Addr) (n k nb kb : Nat) (w : World) (hrg : nb = rg.length) (hn : n = zs.length) :
    Calls Try.prog 112 #[.agg #[.int .i64 clock, .int .i64 domain, .int .i64 reset, .int .u32 clamp, .slice B nb kb, .slice A n k]] w (Rt (.int .i64 (manyE ⟨clock, domain, reset, clamp, rg, zs⟩)) w) := by
  refine XK.enter (vs := [.agg #[.int .i64 clock, .int .i64 domain, .int .i64 reset, .int .u32 clamp, .slice B nb kb, .slice A n k]]) Try.func112 rfl Try.ntmps112 (by simp) ?_
  refine XK.seq ?_

  refine XK.region ?_
  refine xk_box rfl (by decide) fun g1 => ?_
  refine xk_assign rfl (by decide) ?_
  refine XK.nil ?_
  (repeat (first | refine XK.thenN ?_ | refine XK.thenE ?_ | refine XK.thenR ?_ | refine XK.inN ?_ | refine XK.inE ?_ | refine XK.inR ?_ | refine XK.inF rfl ?_))
  refine XK.seq ?_

  refine XK.region ?_
  refine xk_field (off := 4) (by kernel_rfl) rfl (by decide) ?_
  refine xk_load (by kernel_rfl) rfl (by first | assumption | exact Rd.blk 0 rfl rfl | exact Rd.blk 1 rfl rfl | exact Rd.blk 2 rfl rfl | exact Rd.blk 3 rfl rfl | exact Rd.blk 4 rfl rfl | exact Rd.blk 5 rfl rfl | exact Rd.blk 6 rfl rfl | exact Rd.blk 7 rfl rfl | exact Rd.blk 8 rfl rfl | exact Rd.roc (by simp) (by assumption) | (apply Rd.rocN (by simp); assumption; rfl)) (by decide) ?_
  refine xk_len (el := 104) (by kernel_rfl) rfl (by decide) ?_
  refine xk_gtr rfl rfl (by decide) ?_
  refine xk_move rfl (by decide) ?_
  refine xk_split (t := 7) rfl (fun hg => ?_) (fun hg => ?_)
  ·
    refine xk_guardF rfl rfl rfl (by decide) ?_
    refine xk_guardF rfl rfl rfl (by decide) ?_
    refine xk_guardF rfl rfl rfl (by decide) ?_
    refine xk_guardF rfl rfl rfl (by decide) ?_
    (first | refine xk_pickT rfl rfl (by decide) ?_ | refine xk_pickF rfl rfl (by decide) ?_)
    refine xk_callR (f := 113) (fi := []) (ca := []) (by kernel_rfl) rfl rfl (by decide) (fun w1 st => when_any _ _ w1) ?_
    refine xk_assign rfl (by decide) ?_
    refine XK.nil ?_
    (repeat (first | refine XK.thenN ?_ | refine XK.thenE ?_ | refine XK.thenR ?_ | refine XK.inN ?_ | refine XK.inE ?_ | refine XK.inR ?_ | refine XK.inF rfl ?_))
    refine XK.ret ?_
    (repeat (first | refine XK.thenN ?_ | refine XK.thenE ?_ | refine XK.thenR ?_ | refine XK.inN ?_ | refine XK.inE ?_ | refine XK.inR ?_ | refine XK.inF rfl ?_))
    exact XK.ret1 rfl rfl fun w1 st => ⟨by subst hrg hn; simp [manyE, hg], st.below (by simp)⟩
  ·
    refine xk_guardT rfl rfl ?_; refine xk_field (off := 5) (by kernel_rfl) rfl (by decide) ?_
    refine xk_guardT rfl rfl ?_; refine xk_load (by kernel_rfl) rfl (by first | assumption | exact Rd.blk 0 rfl rfl | exact Rd.blk 1 rfl rfl | exact Rd.blk 2 rfl rfl | exact Rd.blk 3 rfl rfl | exact Rd.blk 4 rfl rfl | exact Rd.blk 5 rfl rfl | exact Rd.blk 6 rfl rfl | exact Rd.blk 7 rfl rfl | exact Rd.blk 8 rfl rfl | exact Rd.roc (by simp) (by assumption) | (apply Rd.rocN (by simp); assumption; rfl)) (by decide) ?_
    refine xk_guardT rfl rfl ?_; refine xk_len (el := 3) (by kernel_rfl) rfl (by decide) ?_
    refine xk_guardT rfl rfl ?_; refine xk_gtr rfl rfl (by decide) ?_
    (first | refine xk_pickT rfl rfl (by decide) ?_ | refine xk_pickF rfl rfl (by decide) ?_)
    refine xk_callR (f := 113) (fi := []) (ca := []) (by kernel_rfl) rfl rfl (by decide) (fun w1 st => when_any _ _ w1) ?_
    refine xk_assign rfl (by decide) ?_
    refine XK.nil ?_
    (repeat (first | refine XK.thenN ?_ | refine XK.thenE ?_ | refine XK.thenR ?_ | refine XK.inN ?_ | refine XK.inE ?_ | refine XK.inR ?_ | refine XK.inF rfl ?_))
    refine XK.ret ?_
    (repeat (first | refine XK.thenN ?_ | refine XK.thenE ?_ | refine XK.thenR ?_ | refine XK.inN ?_ | refine XK.inE ?_ | refine XK.inR ?_ | refine XK.inF rfl ?_))
    exact XK.ret1 rfl rfl fun w1 st => ⟨by subst hrg hn; simp [manyE, hg], st.below (by simp)⟩

end Go.Proofs.Ytbgibbbggajgaaa
