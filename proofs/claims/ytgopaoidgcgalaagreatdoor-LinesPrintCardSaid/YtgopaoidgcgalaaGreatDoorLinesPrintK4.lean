/- package lines: a line is taken into a description. -/
import Derived.Lib.ItoaNum
import Derived.Lib.Join
import Derived.Lib.Split
import Derived.Tactics2
import Derived.Test.YtgopaoidgcgalaaGreatDoorLinesPrintK3
namespace Go.Proofs.YtgopaoidgcgalaaGreatDoor
set_option linter.all false
open Go.RowKit
def aboveF (s : ByteArray) : Option Int := if s = ⟨#[45]⟩ then some (-1) else (numF s).map fun n => (n : Int)
def domF : List ByteArray → Option Dom
  | [a, b, c] => match aboveF a, numF b, keptF c with
    | some x, some y, some z => some ⟨x, (y : Int), z⟩
    | _, _, _ => none
  | _ => none
def devF (args : List ByteArray) : Option Dev := if 4 ≤ args.length then
    match numsF (args.take 3), args[3]?.bind w32F, numsF (args.drop 4) with
    | some [x, y, z], some m, some l => some ⟨x, y, z, (m : Int), [], l⟩
    | _, _, _ => none
  else none
def resF : List ByteArray → Option Int
  | [a] => (numF a).map fun n => (n : Int)
  | _ => none
def regF (s : Soc) : List ByteArray → Option Soc
  | [a, b] => match s.devs[s.devs.length - 1]?, w32F a, keptF b with
    | some d, some r, some k => some ⟨s.clocks, s.domains, s.resets, s.devs.set (s.devs.length - 1) ⟨d.clock, d.domain, d.reset, d.clamp, d.regs ++ [⟨(r : Int), k⟩], d.needs⟩⟩
    | _, _, _ => none
  | _ => none
/-- what a line makes of a description -/
def takeF (s : Soc) : List ByteArray → Option Soc
  | [] => none
  | k :: args =>
    if k = ⟨#[99, 108, 111, 99, 107]⟩ then (clockF args).map fun c => ⟨s.clocks ++ [c], s.domains, s.resets, s.devs⟩
    else if k = ⟨#[100, 111, 109, 97, 105, 110]⟩ then (domF args).map fun d => ⟨s.clocks, s.domains ++ [d], s.resets, s.devs⟩
    else if k = ⟨#[114, 101, 115, 101, 116]⟩ then ((resF args).map fun r => ⟨s.clocks, s.domains, s.resets ++ [r], s.devs⟩)
    else if k = ⟨#[100, 101, 118, 105, 99, 101]⟩ then (devF args).map fun d => ⟨s.clocks, s.domains, s.resets, s.devs ++ [d]⟩
    else if k = ⟨#[114, 101, 103]⟩ then regF s args
    else none
def domCells (d : Dom) : List Value := [.int .i64 d.above, .int .i64 d.delay, .bool d.ret]
def clkRow (x : Clk × Option Addr × Nat) : List Value := [.int .u8 x.1.kind, .slice x.2.1 x.1.src.length x.2.2, .int .u64 x.1.rate, .int .i64 x.1.mul, .int .i64 x.1.div, .int .i64 x.1.lock]
abbrev DvX := Dev × (Option Addr × Nat) × (Option Addr × Nat)
def devRow (x : DvX) : List Value := [.int .i64 x.1.clock, .int .i64 x.1.domain, .int .i64 x.1.reset, .int .u32 x.1.clamp, .slice x.2.1.1 x.1.regs.length x.2.1.2, .slice x.2.2.1 x.1.needs.length x.2.2.2]
def regOwn (x : DvX) : HP := HP.own 57 2 (.slice x.2.1.1 x.1.regs.length x.2.1.2) x.1.regs.length (x.1.regs.flatMap Rg.cells)
def picY (cs : List (Clk × Option Addr × Nat)) (ds : List DvX) (p : Piece) : Prop := (∀ x ∈ cs, SlS p 1 x.2.1 x.1.src.length (intCells x.1.src)) ∧ ∀ x ∈ ds, SlS p 1 x.2.2.1 x.1.needs.length (intCells x.1.needs)
theorem picY_mono (cs : List (Clk × Option Addr × Nat)) (ds : List DvX) : ∀ p q : Piece, p.Le q → picY cs ds p → picY cs ds q := fun _ _ hl h => ⟨fun x hx => (h.1 x hx).le hl, fun x hx => (h.2 x hx).le hl⟩
def sls1 (A : Option Addr) (l : List Int) (p : Piece) : Prop := SlS p 1 A l.length (intCells l)
theorem sls1_mono (A : Option Addr) (l : List Int) : ∀ p q : Piece, p.Le q → sls1 A l p → sls1 A l q := fun _ _ hl h => SlS.le h hl
/-- a description as it is built up -/
structure SocY where
  cs : List (Clk × Option Addr × Nat)
  dm : List Dom
  rs : List Int
  ds : List DvX
  A1 : Option Addr
  n1 : Nat
  c1 : Nat
  A2 : Option Addr
  n2 : Nat
  c2 : Nat
  A3 : Option Addr
  n3 : Nat
  c3 : Nat
  A4 : Option Addr
  n4 : Nat
  c4 : Nat
  L1 : List Value
  L2 : List Value
  L3 : List Value
  L4 : List Value
  rg : List HP
structure SocY.of (x : SocY) (s : Soc) : Prop where
  clocks : x.cs.map (·.1) = s.clocks
  domains : x.dm = s.domains
  resets : x.rs = s.resets
  devs : x.ds.map (·.1) = s.devs
  n1 : x.n1 = x.cs.length
  n2 : x.n2 = x.dm.length
  n3 : x.n3 = x.rs.length
  n4 : x.n4 = x.ds.length
  L1 : x.L1 = x.cs.flatMap clkRow
  L2 : x.L2 = x.dm.flatMap domCells
  L3 : x.L3 = intCells x.rs
  L4 : x.L4 = x.ds.flatMap devRow
  rg : x.rg = x.ds.map regOwn
def SocY.hp (g : Nat) (x : SocY) : HP := HP.many [HP.blk g 28 [.slice x.A1 x.n1 x.c1, .slice x.A2 x.n2 x.c2, .slice x.A3 x.n3 x.c3, .slice x.A4 x.n4 x.c4],
  HP.own 55 6 (.slice x.A1 x.n1 x.c1) x.n1 x.L1, HP.own 69 3 (.slice x.A2 x.n2 x.c2) x.n2 x.L2, HP.own 71 1 (.slice x.A3 x.n3 x.c3) x.n3 x.L3, HP.own 51 6 (.slice x.A4 x.n4 x.c4) x.n4 x.L4, HP.many x.rg, HP.pic (picY x.cs x.ds) (picY_mono x.cs x.ds)]
def SocH (g : Nat) (s : Soc) : HP := HP.ex fun x : {x : SocY // x.of s} => x.1.hp g
/-- few enough -/
structure Soc.few (s : Soc) (k : Nat) : Prop where
  clocks : s.clocks.length ≤ k
  domains : s.domains.length ≤ k
  resets : s.resets.length ≤ k
  devs : s.devs.length ≤ k
  regs : ∀ d ∈ s.devs, d.regs.length ≤ k
theorem devRow_len (x : DvX) : (devRow x).length = 6 := rfl
theorem flat_set {α : Type} (f : α → List Value) (sz j : Nat) (v : Value) (hj : j < sz) {x' : α} : ∀ (ds : List α) (i : Nat) (x : α), (∀ y ∈ ds, (f y).length = sz) → ds[i]? = some x → f x' = (f x).set j v → (ds.flatMap f).set (i * sz + j) v = (ds.set i x').flatMap f
  | [], i, x, _, h, _ => by simp at h
  | y :: ds, 0, x, hl, h, hf => by
    simp at h; subst h
    rw [List.flatMap_cons, List.set_cons_zero, List.flatMap_cons, hf, List.set_append_left _ _ (by rw [hl y (by simp)]; omega)]
    simp
  | y :: ds, i + 1, x, hl, h, hf => by
    have hy := hl y (by simp)
    have ih := flat_set f sz j v hj ds i x (fun z hz => hl z (by simp [hz])) (by simpa using h) hf
    rw [List.flatMap_cons, List.set_cons_succ, List.flatMap_cons, ← ih, List.set_append_right _ _ (by rw [hy, Nat.succ_mul]; omega)]
    congr 2
    rw [hy, Nat.succ_mul]; omega
section
variable {P : Program} {N : Frm} {w0 w : World} {K : Act → World → Prop} {e : Env} {R : List Piece} {H H' : List HP}
/-- a chunk more -/
theorem XK.push {p : HP} {ps : List HP} (h : XK N w0 K e R (HP.many (ps ++ [p]) :: H)) : XK N w0 K e R (p :: HP.many ps :: H) := fun a w hr st => by
  obtain ⟨Z, F, hz, hrr, hs, hff, hdd⟩ := st.ex
  obtain ⟨G, hG1, hG2, hG3⟩ := hs 1 _ rfl
  refine h a w hr ⟨st.os, st.tape, st.output, st.size, Z, fun j => match j with | 0 => fun b => F 0 b ∨ F 1 b | j + 1 => F (j + 2), hz, hrr, fun j r hj => ?_, fun j b hb => ?_, fun j k b hjk hj hk => ?_⟩
  · cases j with
    | zero =>
      simp at hj
      subst hj
      refine ⟨fun i b => if i < ps.length then G i b else i = ps.length ∧ F 0 b, fun i r hi => ?_, fun i b hb => ?_, fun i k b hik h1 h2 => ?_⟩
      · rcases Nat.lt_or_ge i ps.length with hl | hl
        · rw [List.getElem?_append_left hl] at hi
          show r.sat (fun b => if i < ps.length then G i b else i = ps.length ∧ F 0 b) w
          rw [show (fun b => if i < ps.length then G i b else i = ps.length ∧ F 0 b) = G i by funext b; rw [if_pos hl]]
          exact hG1 i r hi
        · rw [List.getElem?_append_right hl] at hi
          have h0 := hlt_of hi
          have hil : i = ps.length := by simp at h0; omega
          subst hil
          simp at hi
          subst hi
          show p.sat (fun b => if ps.length < ps.length then G ps.length b else ps.length = ps.length ∧ F 0 b) w
          rw [show (fun b => if ps.length < ps.length then G ps.length b else ps.length = ps.length ∧ F 0 b) = F 0 by funext b; simp]
          exact hs 0 _ rfl
      · dsimp only at hb
        split at hb
        · exact .inr (hG2 i b hb)
        · exact .inl hb.2
      · dsimp only at h1 h2
        split at h1 <;> split at h2
        · exact hG3 i k b hik h1 h2
        · exact hdd 1 0 b (by omega) (hG2 i b h1) h2.2
        · exact hdd 0 1 b (by omega) h1.2 (hG2 k b h2)
        · omega
    | succ j => exact hs (j + 2) r (by simpa using hj)
  · cases j with
    | zero => rcases hb with hb | hb <;> exact hff _ b hb
    | succ j => exact hff _ b hb
  · cases j with
    | zero => cases k with
      | zero => exact hjk rfl
      | succ k => rcases hj with hj | hj
                  · exact hdd 0 (k + 2) b (by omega) hj hk
                  · exact hdd 1 (k + 2) b (by omega) hj hk
    | succ j => cases k with
      | zero => rcases hk with hk | hk
                · exact hdd 0 (j + 2) b (by omega) hk hj
                · exact hdd 1 (j + 2) b (by omega) hk hj
      | succ k => exact hdd (j + 2) (k + 2) b (by omega) hj hk
end
/-- all but the first k, as a value -/
theorem sliceL_all {P : Program} {t el : TypeId} {sz n c k : Nat} {A : Option Addr} {kd : IntKind} (ht : P.underlying t = some (.slice el)) (hsz : (P.info? el).map (·.size) = some sz) (hk : k ≤ n) (hc : n ≤ c) :
    ∃ A', (k < n → ∀ b off, A = some ⟨b, off, none⟩ → A' = some ⟨b, off + k * sz, none⟩) ∧ ∀ w, (Instr.sliceAt t (.slice A n c) (some (.int kd (k : Int))) none none).run P w = .ok (.slice A' (n - k) (c - k)) w := by
  obtain ⟨i, hi, hs⟩ := Option.map_eq_some_iff.1 hsz
  have hel := elem_eq ht
  refine ⟨_, ?_, fun w => by rw [run_sliceAt_slice w t _ _ _ _ (sl_elem ht), run_slice_l w t A n c (sl_elem ht) kd k (by omega) (by omega), hel]; simp [sizeOf, typeInfo, hi, sliced]; rfl⟩
  rintro h0 b off rfl
  rw [if_neg (by omega)]
  simp [Addr.add, hs]
theorem does_sliceL {P : Program} {N : Frm} {w0 : World} {e : Env} {R : List Piece} {H : List HP} {d : Nat} {ty : TypeId} {pos : String} {aft : Array Edge} {x lo : Operand} {t : TypeId} {v u y : Value} (hx : e.ev x = some v) (hh : e.ev lo = some u) (hrun : ∀ w, (Instr.sliceAt t v (some u) none none).run P w = .ok y w) : Does P N w0 e R H ⟨some d, .slice t x (some lo) none none, ty, pos, aft, none⟩ y := does_of fun a w hr => by
  simp only [execOp, hr.ev hx, Option.map_some, Option.map_none, hr.ev hh, Sem.run_bind, hrun, Result.andThen_ok, Sem.run_pure]

theorem take_x (g : Nat) (s : Soc) (ws : List ByteArray) (A : Option Addr) (n c : Nat) (w : World) (F : Nat → Prop) (hp : (SocH g s).sat F w) (hF : ∀ b, F b → b < w.heap.size) (hfew : s.few 8000) (hS : SlS ⟨w, fun b => b < w.heap.size ∧ ¬ F b⟩ 1 A n (strCells ws)) (hn : ws.length = n) (hn1 : 1 ≤ n) (hnc : n ≤ c) (hn63 : n ≤ 1000000) (hsz : ∀ s ∈ ws, s.size < 4294967296) :
    Calls Tryz.prog 25 #[.pointer (some ⟨g, 0, none⟩), .slice A n c] w (OutT (.tuple #[]) ((takeF s ws).isSome = true) (SocH g ((takeF s ws).getD s)) (takeF s ws = none) w F) := by
  refine XK.enterM (p := SocH g s) (F := F) (vs := [.pointer (some ⟨g, 0, none⟩), .slice A n c]) Tryz.func25 rfl Tryz.ntmps25 (by simp) hp hF ?_
  obtain ⟨p0, hp0⟩ : ∃ p0, p0 = (⟨w, fun b => b < w.heap.size ∧ ¬ F b⟩ : Piece) := ⟨_, rfl⟩
  rw [← hp0] at hS ⊢
  have hR0 : ∀ p ∈ [p0], ∀ b, p.Z b → b < w.heap.size := by
    intro p hp b hb
    simp at hp
    subst hp
    rw [hp0] at hb
    exact hb.1
  refine XK.openEx 0 rfl ?_
  rintro ⟨⟨cs, dm, rs, ds, A1, n1, c1, A2, n2, c2, A3, n3, c3, A4, n4, c4, L1, L2, L3, L4, rg⟩, hx⟩
  dsimp only [List.set, SocY.hp]
  refine XK.take 0 0 rfl rfl ?_
  dsimp only [List.set]
  obtain ⟨e1, e2, e3, e4, e5, e6, e7, e8, e9, e10, e11, e12, e13⟩ := hx
  dsimp only at e1 e2 e3 e4 e5 e6 e7 e8 e9 e10 e11 e12 e13
  have hl1 : n1 = s.clocks.length := by rw [e5, ← e1]; simp
  have hl2 : n2 = s.domains.length := by rw [e6, e2]
  have hl3 : n3 = s.resets.length := by rw [e7, e3]
  have hl4 : n4 = s.devs.length := by rw [e8, ← e4]; simp
  have f1 := hfew.clocks
  have f2 := hfew.domains
  have f3 := hfew.resets
  have f4 := hfew.devs
  obtain ⟨k0, args, rfl⟩ : ∃ k0 args, ws = k0 :: args := by
    cases ws with
    | nil => simp at hn; omega
    | cons k0 r => exact ⟨k0, r, rfl⟩
  obtain ⟨b0, off, rfl, hz, hc⟩ := hS.2 (by omega)
  have hnr : n = args.length + 1 := by simp at hn; omega
  have hsr : ∀ s ∈ args, s.size < 4294967296 := fun s hs => hsz s (by simp [hs])
  refine XK.seq ?_

  refine XK.region ?_
  refine xk_move rfl (by decide) ?_
  refine xk_sliceL 1 (el := 9) (sz := 1) (by kernel_rfl) (by kernel_rfl) rfl rfl rfl (by omega) hnc (by decide) fun Aa hA2 => ?_
  have hS2 : SlS p0 1 Aa (n - 1) (strCells args) := by
    have h := SlS.dropP (k := 1) hS (by omega) hA2
    rw [strCells_drop] at h
    exact h
  rw [show n - 1 = args.length by omega] at hS2 ⊢
  generalize hca : c - 1 = ca
  have hcal : args.length ≤ ca := by omega
  refine xk_assign rfl (by decide) ?_
  refine XK.nilN ?_
  refine XK.seq ?_

  refine XK.region ?_
  refine xk_move rfl (by decide) ?_
  refine xk_at 0 (off + 0) (el := 9) (sz := 1) (by kernel_rfl) (by kernel_rfl) rfl rfl (by rfl) (by omega) (by omega) (by decide) ?_
  refine xk_load (by kernel_rfl) rfl (Rd.ro (p := p0) (by simp) hz (hc 0 _ rfl)) (by decide) ?_
  refine XK.nilN ?_
  refine XK.block ?_
  refine XK.seq ?_

  refine XK.region ?_
  refine xk_eqlStr (by kernel_rfl) rfl rfl (by decide) ?_
  refine xk_assign rfl (by decide) ?_
  refine XK.nilN ?_
  refine XK.if_ rfl (fun hk1 => ?_) (fun hk1 => ?_)
  have hk1t : takeF s (k0 :: args) = (clockF args).map fun c => ⟨s.clocks ++ [c], s.domains, s.resets, s.devs⟩ := if_pos hk1
  refine XK.take 1 1 rfl rfl ?_
  dsimp only [List.set]
  ·

    refine XK.draw1 [p0] [HP.blk g 28 [.slice A1 n1 c1, .slice A2 n2 c2, .slice A3 n3 c3, .slice A4 n4 c4], HP.many [HP.emp, HP.emp, HP.own 69 3 (.slice A2 n2 c2) n2 L2, HP.own 71 1 (.slice A3 n3 c3) n3 L3, HP.own 51 6 (.slice A4 n4 c4) n4 L4, HP.many rg, HP.pic (picY cs ds) (picY_mono cs ds)]] 9 (by kernel_rfl) (by kernel_rfl) ?_
    refine XA.dA 0 rfl rfl rfl (does_move rfl) ?_
    refine XA.dA 1 rfl rfl rfl (does_move rfl) ?_
    refine XA.dA 2 rfl rfl rfl (does_nilC rfl) ?_
    refine XA.dA 3 rfl rfl rfl (does_field (off := 0) (by kernel_rfl) rfl) ?_
    refine XA.dA 4 rfl rfl rfl (does_ld rfl) ?_
    refine XA.dA 5 rfl rfl rfl (does_move rfl) ?_
    refine XA.next 6 rfl (by kernel_rfl) ?_
    refine xk_callX [] (f := 75) (fi := []) (ca := []) (by kernel_rfl) rfl rfl (by decide) (by simp) (fun v w w' => ∃ (cl : Clk) (A' : Option Addr) (c' : Nat), clockF args = some cl ∧ v = .agg #[.int .u8 cl.kind, .slice A' cl.src.length c', .int .u64 cl.rate, .int .i64 cl.mul, .int .i64 cl.div, .int .i64 cl.lock] ∧ SlS (fresh w w') 1 A' cl.src.length (intCells cl.src)) (clockF args = none) (fun w1 st => toClock_x args Aa args.length ca w1 (hS2.le (st.le (by simp))) rfl hcal (by omega) hsr) (fun hp T u => by
      (repeat (first | refine XK.thenP ?_ | refine XK.inP ?_))
      exact XK.retP fun w1 st => .inr ⟨hk1t.trans (by rw [hp]; rfl), ⟨T, u, rfl⟩, (st.turns hF (by simp [hp0]) (i := 0) rfl).imp fun _ h => h.2⟩) ?_
    rintro _ w1 q1 ⟨cl, Ac, cc, hcl, rfl, hSc⟩ hq1 _ hF1
    have hSc := hSc.le hq1
    have hF1 := hF1 (by simp)
    have htk : takeF s (k0 :: args) = some ⟨s.clocks ++ [cl], s.domains, s.resets, s.devs⟩ := hk1t.trans (by rw [hcl]; rfl)
    refine XA.bk ?_
    refine XA.next 7 rfl (by kernel_rfl) ?_
    refine xk_slice (el := 55) (sz := 6) (zs := [.int .u8 0, .slice none 0 0, .int .u64 0, .int .i64 0, .int .i64 0, .int .i64 0]) (by kernel_rfl) (zeroB_of (by kernel_rfl)) (by kernel_rfl) rfl (by decide) (by decide) rfl (by simp [fillL, setN, Value.cells, List.range_succ, List.set]; rfl) (by decide) fun g1 => ?_
    refine XA.bk ?_
    refine XA.next 8 rfl (by kernel_rfl) ?_
    refine xk_appendT 1 6 64 1 (n' := n1 + 1) (el := 55) (by kernel_rfl) (by kernel_rfl) (by decide) rfl rfl rfl (sl_blk 0 rfl rfl) (by simp [Value.oneCell']) rfl (by omega) (by omega) (by decide) fun An cn => ?_
    dsimp only [List.set]
    refine XA.bk ?_
    refine XA.next 9 rfl (by kernel_rfl) ?_
    refine xk_nilC rfl (by decide) ?_
    refine XA.bt ?_
    refine XA.next 10 rfl (by kernel_rfl) ?_
    refine xk_field (off := 0) (by kernel_rfl) rfl (by decide) ?_
    refine XA.bt ?_
    refine XA.next 11 rfl (by kernel_rfl) ?_
    refine xk_st rfl rfl ?_; dsimp only [List.set]
    refine XA.bt ?_
    refine XA.done (by kernel_rfl) ?_
    refine XK.norm ?_
    refine XK.weak [1, 2, 3] rfl (by decide) (fun _ h => h) ?_
    refine XK.ownP (Φ := sls1 Ac cl.src) (hm := sls1_mono Ac cl.src) hF1 hR0 hSc ?_
    refine XK.take 3 6 rfl rfl ?_
    dsimp only [List.set]
    refine XK.joinPic (X := picY (cs ++ [(cl, Ac, cc)]) ds) (h3 := picY_mono _ _) (fun p h1 h2 => ⟨fun x hx => by
      rcases List.mem_append.1 hx with hx | hx
      · exact h1.1 x hx
      · simp at hx; subst hx; exact h2, h1.2⟩) ?_
    refine XK.give 2 6 rfl rfl ?_
    dsimp only [List.set]
    refine XK.give 1 1 rfl rfl ?_
    dsimp only [List.set]
    refine XK.give 0 0 rfl rfl ?_
    dsimp only [List.set]
    refine XK.toEx 0 (f := fun X0 : {X0 : SocY // X0.of ⟨s.clocks ++ [cl], s.domains, s.resets, s.devs⟩} => X0.1.hp g) ⟨⟨cs ++ [(cl, Ac, cc)], dm, rs, ds, An, n1 + 1, cn, A2, n2, c2, A3, n3, c3, A4, n4, c4, L1 ++ clkRow (cl, Ac, cc), L2, L3, L4, rg⟩, ⟨by simp [e1], e2, e3, e4, by simp [e5], e6, e7, e8, by simp [e9], e10, e11, e12, e13⟩⟩ rfl ?_
    exact XK.ret0 (.inr rfl) rfl fun w1 st => .inl ⟨rfl, by rw [htk]; rfl, by rw [htk]; exact st.turns hF (by simp [hp0]) (i := 0) rfl⟩
  ·
    refine XK.seq ?_

    refine XK.region ?_
    refine xk_eqlStr (by kernel_rfl) rfl rfl (by decide) ?_
    refine xk_assign rfl (by decide) ?_
    refine XK.nilN ?_
    refine XK.if_ rfl (fun hk2 => ?_) (fun hk2 => ?_)
    have hk2t : takeF s (k0 :: args) = (domF args).map fun d => ⟨s.clocks, s.domains ++ [d], s.resets, s.devs⟩ := (if_neg hk1).trans (if_pos hk2)
    ·
      refine XK.seq ?_

      refine XK.region ?_
      refine xk_move rfl (by decide) ?_
      refine xk_len (el := 9) (by kernel_rfl) rfl (by decide) ?_
      refine xk_eql rfl rfl (by decide) ?_
      refine xk_callXV (f := 76) (fi := []) (ca := []) (by kernel_rfl) rfl rfl (by decide) (fun v => ((args.length : Int) = 3) ∧ v = .tuple #[]) (¬ ((args.length : Int) = 3)) (fun w1 st => must_x ((args.length : Int) = 3) w1) (fun hp T u => by
        (repeat (first | refine XK.thenP ?_ | refine XK.inP ?_))
        exact XK.retP fun w1 st => .inr ⟨hk2t.trans (by
          have h2 : args.length ≠ 3 := by omega
          match args, h2 with
          | [], _ => rfl
          | [a], _ => rfl
          | [a, b], _ => rfl
          | [a, b, c], h2 => simp at h2
          | a :: b :: c :: d :: r, _ => rfl), ⟨T, u, rfl⟩, (st.turns hF (by simp [hp0]) (i := 0) rfl).imp fun _ h => h.2⟩) ?_
      rintro _ ⟨hm, rfl⟩
      obtain ⟨sa, sb, sc, rfl⟩ := len3 (show args.length = 3 by omega)
      obtain ⟨ba, offa, rfl, hza, hcA⟩ := hS2.2 (by simp)
      refine XK.take 1 2 rfl rfl ?_
      dsimp only [List.set]
      refine XK.nilN ?_
      refine XK.seq ?_

      refine XK.region ?_
      refine xk_assign rfl (by decide) ?_
      refine XK.nilN ?_
      refine XK.cut (fun e R H => ∃ ab : Int, aboveF sa = some ab ∧ e = [(5, .int .i64 ab), (4, .slice (some ⟨ba, offa, none⟩) [sa, sb, sc].length ca), (0, .pointer (some ⟨g, 0, none⟩))] ∧ R = [p0] ∧ H = [HP.own 69 3 (.slice A2 n2 c2) n2 L2, HP.blk g 28 [.slice A1 n1 c1, .slice A2 n2 c2, .slice A3 n3 c3, .slice A4 n4 c4], HP.many [HP.emp, HP.own 55 6 (.slice A1 n1 c1) n1 L1, HP.emp, HP.own 71 1 (.slice A3 n3 c3) n3 L3, HP.own 51 6 (.slice A4 n4 c4) n4 L4, HP.many rg, HP.pic (picY cs ds) (picY_mono cs ds)]]) ?_ ?_
      ·
        refine XK.seq ?_

        refine XK.region ?_
        refine xk_move rfl (by decide) ?_
        refine xk_at 0 (offa + 0) (el := 9) (sz := 1) (by kernel_rfl) (by kernel_rfl) rfl rfl rfl (by simp) (by omega) (by decide) ?_
        refine xk_load (by kernel_rfl) rfl (Rd.ro (p := p0) (by simp) hza (hcA 0 _ rfl)) (by decide) ?_
        refine xk_neqStr (by kernel_rfl) rfl rfl (by decide) ?_
        refine XK.nilN ?_
        refine XK.if_ rfl (fun hda => ?_) (fun hda => ?_)
        ·

          refine XK.region ?_
          refine xk_move rfl (by decide) ?_
          refine xk_at 0 (offa + 0) (el := 9) (sz := 1) (by kernel_rfl) (by kernel_rfl) rfl rfl rfl (by simp) (by omega) (by decide) ?_
          refine xk_load (by kernel_rfl) rfl (Rd.ro (p := p0) (by simp) hza (hcA 0 _ rfl)) (by decide) ?_
          refine xk_callXV (f := 77) (fi := []) (ca := []) (by kernel_rfl) rfl rfl (by decide) (fun v => ∃ n, numF sa = some n ∧ v = .int .i64 (n : Int)) (numF sa = none) (fun w1 st => toInt_x sa (hsr sa (by simp)) w1) (fun hp T u => by
            (repeat (first | refine XK.thenP ?_ | refine XK.inP ?_))
            exact XK.retP fun w1 st => .inr ⟨hk2t.trans (by rw [domF, aboveF, if_neg hda, hp]; rfl), ⟨T, u, rfl⟩, (st.turns hF (by simp [hp0]) (i := 0) rfl).imp fun _ h => h.2⟩) ?_
          rintro _ ⟨na, hna, rfl⟩
          refine xk_assign rfl (by decide) ?_
          refine XK.nilN ?_
          exact XK.envS [(5, .int .i64 (na : Int)), (4, .slice (some ⟨ba, offa, none⟩) [sa, sb, sc].length ca), (0, .pointer (some ⟨g, 0, none⟩))] (XK.meet ⟨na, by rw [aboveF, if_neg hda, hna]; rfl, rfl, rfl, rfl⟩)
        ·
          refine XK.skip ?_
          refine XK.norm ?_
          exact XK.envS [(5, .int .i64 (-1)), (4, .slice (some ⟨ba, offa, none⟩) [sa, sb, sc].length ca), (0, .pointer (some ⟨g, 0, none⟩))] (XK.meet ⟨-1, if_pos (Classical.not_not.1 hda), rfl, rfl, rfl⟩)
      rintro _ _ _ ⟨ab, hab, rfl, rfl, rfl⟩

      refine XK.draw1 [p0] [HP.blk g 28 [.slice A1 n1 c1, .slice A2 n2 c2, .slice A3 n3 c3, .slice A4 n4 c4], HP.many [HP.emp, HP.own 55 6 (.slice A1 n1 c1) n1 L1, HP.emp, HP.own 71 1 (.slice A3 n3 c3) n3 L3, HP.own 51 6 (.slice A4 n4 c4) n4 L4, HP.many rg, HP.pic (picY cs ds) (picY_mono cs ds)]] 17 (by kernel_rfl) (by kernel_rfl) ?_
      refine XA.dA 0 rfl rfl rfl (does_move rfl) ?_
      refine XA.dA 1 rfl rfl rfl (does_move rfl) ?_
      refine XA.dA 2 rfl rfl rfl (does_nilC rfl) ?_
      refine XA.dA 3 rfl rfl rfl (does_field (off := 1) (by kernel_rfl) rfl) ?_
      refine XA.dA 4 rfl rfl rfl (does_ld rfl) ?_
      refine XA.dA 5 rfl rfl rfl (does_move rfl) ?_
      refine XA.dA 6 rfl rfl rfl (does_move rfl) ?_
      refine XA.dA 7 rfl rfl rfl (does_at 1 (offa + 1) (el := 9) (sz := 1) (by kernel_rfl) (by kernel_rfl) rfl rfl rfl (by simp) (by omega)) ?_
      refine XA.dA 8 rfl rfl rfl (does_load (by kernel_rfl) rfl (Rd.ro (p := p0) (by simp) hza (hcA 1 _ rfl))) ?_
      refine XA.dA 10 rfl rfl rfl (does_move rfl) ?_
      refine XA.dA 11 rfl rfl rfl (does_at 2 (offa + 2) (el := 9) (sz := 1) (by kernel_rfl) (by kernel_rfl) rfl rfl rfl (by simp) (by omega)) ?_
      refine XA.dA 12 rfl rfl rfl (does_load (by kernel_rfl) rfl (Rd.ro (p := p0) (by simp) hza (hcA 2 _ rfl))) ?_
      refine XA.next 9 rfl (by kernel_rfl) ?_
      refine xk_callXV (f := 77) (fi := []) (ca := []) (by kernel_rfl) rfl rfl (by decide) (fun v => ∃ n, numF sb = some n ∧ v = .int .i64 (n : Int)) (numF sb = none) (fun w1 st => toInt_x sb (hsr sb (by simp)) w1) (fun hp T u => by
        (repeat (first | refine XK.thenP ?_ | refine XK.inP ?_))
        exact XK.retP fun w1 st => .inr ⟨hk2t.trans (by rw [domF, hab, hp]; rfl), ⟨T, u, rfl⟩, (st.turns hF (by simp [hp0]) (i := 0) rfl).imp fun _ h => h.2⟩) ?_
      rintro _ ⟨nb, hnb, rfl⟩
      refine XA.bk ?_
      refine XA.next 13 rfl (by kernel_rfl) ?_
      refine xk_callXV (f := 78) (fi := []) (ca := []) (by kernel_rfl) rfl rfl (by decide) (fun v => ∃ b : Bool, keptF sc = some b ∧ v = .bool b) (keptF sc = none) (fun w1 st => toKept_x sc w1) (fun hp T u => by
        (repeat (first | refine XK.thenP ?_ | refine XK.inP ?_))
        exact XK.retP fun w1 st => .inr ⟨hk2t.trans (by rw [domF, hab, hnb, hp]; rfl), ⟨T, u, rfl⟩, (st.turns hF (by simp [hp0]) (i := 0) rfl).imp fun _ h => h.2⟩) ?_
      rintro _ ⟨kp, hkp, rfl⟩
      have htk : takeF s (k0 :: [sa, sb, sc]) = some ⟨s.clocks, s.domains ++ [⟨ab, (nb : Int), kp⟩], s.resets, s.devs⟩ := hk2t.trans (by rw [domF, hab, hnb, hkp]; rfl)
      refine XA.bk ?_
      refine XA.dA 14 rfl rfl rfl (does_buildS (zs := [.int .i64 0, .int .i64 0, .bool false]) (L := [(0, 1), (1, 1), (2, 1)]) (zeroB_of (by kernel_rfl)) (by kernel_rfl) rfl (by simp [fillL, setN, Value.cells]; rfl)) ?_
      refine XA.next 15 rfl (by kernel_rfl) ?_
      refine xk_slice (el := 69) (sz := 3) (zs := [.int .i64 0, .int .i64 0, .bool false]) (by kernel_rfl) (zeroB_of (by kernel_rfl)) (by kernel_rfl) rfl (by decide) (by decide) rfl (by simp [fillL, setN, Value.cells, List.range_succ, List.set]; rfl) (by decide) fun g2 => ?_
      refine XA.bk ?_
      refine XA.next 16 rfl (by kernel_rfl) ?_
      refine xk_appendT 1 3 24 1 (n' := n2 + 1) (el := 69) (by kernel_rfl) (by kernel_rfl) (by decide) rfl rfl rfl (sl_blk 0 rfl rfl) (by simp [Value.oneCell']) rfl (by omega) (by omega) (by decide) fun An cn => ?_
      dsimp only [List.set]
      refine XA.bk ?_
      refine XA.next 17 rfl (by kernel_rfl) ?_
      refine xk_nilC rfl (by decide) ?_
      refine XA.bt ?_
      refine XA.next 18 rfl (by kernel_rfl) ?_
      refine xk_field (off := 1) (by kernel_rfl) rfl (by decide) ?_
      refine XA.bt ?_
      refine XA.next 19 rfl (by kernel_rfl) ?_
      refine xk_st rfl rfl ?_; dsimp only [List.set]
      refine XA.bt ?_
      refine XA.done (by kernel_rfl) ?_
      refine XK.norm ?_
      refine XK.weak [1, 2, 3] rfl (by decide) (fun _ h => h) ?_
      refine XK.give 1 2 rfl rfl ?_
      dsimp only [List.set]
      refine XK.give 0 0 rfl rfl ?_
      dsimp only [List.set]
      refine XK.toEx 0 (f := fun X0 : {X0 : SocY // X0.of ⟨s.clocks, s.domains ++ [⟨ab, (nb : Int), kp⟩], s.resets, s.devs⟩} => X0.1.hp g) ⟨⟨cs, dm ++ [⟨ab, (nb : Int), kp⟩], rs, ds, A1, n1, c1, An, n2 + 1, cn, A3, n3, c3, A4, n4, c4, L1, L2 ++ domCells ⟨ab, (nb : Int), kp⟩, L3, L4, rg⟩, ⟨e1, by simp [e2], e3, e4, e5, by simp [e6], e7, e8, e9, by simp [e10], e11, e12, e13⟩⟩ rfl ?_
      exact XK.ret0 (.inr rfl) rfl fun w1 st => .inl ⟨rfl, by rw [htk]; rfl, by rw [htk]; exact st.turns hF (by simp [hp0]) (i := 0) rfl⟩
    ·
      refine XK.seq ?_

      refine XK.region ?_
      refine xk_eqlStr (by kernel_rfl) rfl rfl (by decide) ?_
      refine xk_assign rfl (by decide) ?_
      refine XK.nilN ?_
      refine XK.if_ rfl (fun hk3 => ?_) (fun hk3 => ?_)
      have hk3t : takeF s (k0 :: args) = ((resF args).map fun r => ⟨s.clocks, s.domains, s.resets ++ [r], s.devs⟩) := (if_neg hk1).trans ((if_neg hk2).trans (if_pos hk3))
      ·
        refine XK.seq ?_

        refine XK.region ?_
        refine xk_move rfl (by decide) ?_
        refine xk_len (el := 9) (by kernel_rfl) rfl (by decide) ?_
        refine xk_eql rfl rfl (by decide) ?_
        refine xk_callXV (f := 76) (fi := []) (ca := []) (by kernel_rfl) rfl rfl (by decide) (fun v => ((args.length : Int) = 1) ∧ v = .tuple #[]) (¬ ((args.length : Int) = 1)) (fun w1 st => must_x ((args.length : Int) = 1) w1) (fun hp T u => by
          (repeat (first | refine XK.thenP ?_ | refine XK.inP ?_))
          exact XK.retP fun w1 st => .inr ⟨hk3t.trans (by
            have h2 : args.length ≠ 1 := by omega
            match args, h2 with
            | [], _ => rfl
            | [a], h2 => simp at h2
            | a :: b :: r, _ => rfl), ⟨T, u, rfl⟩, (st.turns hF (by simp [hp0]) (i := 0) rfl).imp fun _ h => h.2⟩) ?_
        rintro _ ⟨hm, rfl⟩
        obtain ⟨sa, rfl⟩ := len1 (show args.length = 1 by omega)
        obtain ⟨ba, offa, rfl, hza, hcA⟩ := hS2.2 (by simp)
        refine XK.take 1 3 rfl rfl ?_
        dsimp only [List.set]
        refine XK.nilN ?_

        refine XK.draw1 [p0] [HP.blk g 28 [.slice A1 n1 c1, .slice A2 n2 c2, .slice A3 n3 c3, .slice A4 n4 c4], HP.many [HP.emp, HP.own 55 6 (.slice A1 n1 c1) n1 L1, HP.own 69 3 (.slice A2 n2 c2) n2 L2, HP.emp, HP.own 51 6 (.slice A4 n4 c4) n4 L4, HP.many rg, HP.pic (picY cs ds) (picY_mono cs ds)]] 12 (by kernel_rfl) (by kernel_rfl) ?_
        refine XA.dA 0 rfl rfl rfl (does_move rfl) ?_
        refine XA.dA 1 rfl rfl rfl (does_move rfl) ?_
        refine XA.dA 2 rfl rfl rfl (does_nilC rfl) ?_
        refine XA.dA 3 rfl rfl rfl (does_field (off := 2) (by kernel_rfl) rfl) ?_
        refine XA.dA 4 rfl rfl rfl (does_ld rfl) ?_
        refine XA.dA 5 rfl rfl rfl (does_move rfl) ?_
        refine XA.dA 6 rfl rfl rfl (does_at 0 (offa + 0) (el := 9) (sz := 1) (by kernel_rfl) (by kernel_rfl) rfl rfl rfl (by simp) (by omega)) ?_
        refine XA.dA 7 rfl rfl rfl (does_load (by kernel_rfl) rfl (Rd.ro (p := p0) (by simp) hza (hcA 0 _ rfl))) ?_
        refine XA.next 8 rfl (by kernel_rfl) ?_
        refine xk_callXV (f := 77) (fi := []) (ca := []) (by kernel_rfl) rfl rfl (by decide) (fun v => ∃ n, numF sa = some n ∧ v = .int .i64 (n : Int)) (numF sa = none) (fun w1 st => toInt_x sa (hsr sa (by simp)) w1) (fun hp T u => by
          (repeat (first | refine XK.thenP ?_ | refine XK.inP ?_))
          exact XK.retP fun w1 st => .inr ⟨hk3t.trans (by rw [resF, hp]; rfl), ⟨T, u, rfl⟩, (st.turns hF (by simp [hp0]) (i := 0) rfl).imp fun _ h => h.2⟩) ?_
        rintro _ ⟨na, hna, rfl⟩
        have htk : takeF s (k0 :: [sa]) = some ⟨s.clocks, s.domains, s.resets ++ [(na : Int)], s.devs⟩ := hk3t.trans (by rw [resF, hna]; rfl)
        refine XA.bk ?_
        refine XA.dA 9 rfl rfl rfl (does_buildS (zs := [.int .i64 0]) (L := [(0, 1)]) (zeroB_of (by kernel_rfl)) (by kernel_rfl) rfl (by simp [fillL, setN, Value.cells]; rfl)) ?_
        refine XA.next 10 rfl (by kernel_rfl) ?_
        refine xk_slice (el := 71) (sz := 1) (zs := [.int .i64 0]) (by kernel_rfl) (zeroB_of (by kernel_rfl)) (by kernel_rfl) rfl (by decide) (by decide) rfl (by simp [fillL, setN, Value.cells, List.range_succ, List.set]; rfl) (by decide) fun g3 => ?_
        refine XA.bk ?_
        refine XA.next 11 rfl (by kernel_rfl) ?_
        refine xk_appendT 1 1 8 1 (n' := n3 + 1) (el := 71) (by kernel_rfl) (by kernel_rfl) (by decide) rfl rfl rfl (sl_blk 0 rfl rfl) (by simp [Value.oneCell']) rfl (by omega) (by omega) (by decide) fun An cn => ?_
        dsimp only [List.set]
        refine XA.bk ?_
        refine XA.next 12 rfl (by kernel_rfl) ?_
        refine xk_nilC rfl (by decide) ?_
        refine XA.bt ?_
        refine XA.next 13 rfl (by kernel_rfl) ?_
        refine xk_field (off := 2) (by kernel_rfl) rfl (by decide) ?_
        refine XA.bt ?_
        refine XA.next 14 rfl (by kernel_rfl) ?_
        refine xk_st rfl rfl ?_; dsimp only [List.set]
        refine XA.bt ?_
        refine XA.done (by kernel_rfl) ?_
        refine XK.norm ?_
        refine XK.weak [1, 2, 3] rfl (by decide) (fun _ h => h) ?_
        refine XK.give 1 3 rfl rfl ?_
        dsimp only [List.set]
        refine XK.give 0 0 rfl rfl ?_
        dsimp only [List.set]
        refine XK.toEx 0 (f := fun X0 : {X0 : SocY // X0.of ⟨s.clocks, s.domains, s.resets ++ [(na : Int)], s.devs⟩} => X0.1.hp g) ⟨⟨cs, dm, rs ++ [(na : Int)], ds, A1, n1, c1, A2, n2, c2, An, n3 + 1, cn, A4, n4, c4, L1, L2, L3 ++ [.int .i64 (na : Int)], L4, rg⟩, ⟨e1, e2, by simp [e3], e4, e5, e6, by simp [e7], e8, e9, e10, by rw [e11, intCells_one], e12, e13⟩⟩ rfl ?_
        exact XK.ret0 (.inr rfl) rfl fun w1 st => .inl ⟨rfl, by rw [htk]; rfl, by rw [htk]; exact st.turns hF (by simp [hp0]) (i := 0) rfl⟩
      ·
        refine XK.seq ?_

        refine XK.region ?_
        refine xk_eqlStr (by kernel_rfl) rfl rfl (by decide) ?_
        refine xk_assign rfl (by decide) ?_
        refine XK.nilN ?_
        refine XK.if_ rfl (fun hk4 => ?_) (fun hk4 => ?_)
        have hk4t : takeF s (k0 :: args) = (devF args).map fun d => ⟨s.clocks, s.domains, s.resets, s.devs ++ [d]⟩ := (if_neg hk1).trans ((if_neg hk2).trans ((if_neg hk3).trans (if_pos hk4)))
        ·
          refine XK.seq ?_

          refine XK.region ?_
          refine xk_move rfl (by decide) ?_
          refine xk_len (el := 9) (by kernel_rfl) rfl (by decide) ?_
          refine xk_geq rfl rfl (by decide) ?_
          refine xk_callXV (f := 76) (fi := []) (ca := []) (by kernel_rfl) rfl rfl (by decide) (fun v => ((4 : Int) ≤ args.length) ∧ v = .tuple #[]) (¬ ((4 : Int) ≤ args.length)) (fun w1 st => must_x ((4 : Int) ≤ args.length) w1) (fun hp T u => by
            (repeat (first | refine XK.thenP ?_ | refine XK.inP ?_))
            exact XK.retP fun w1 st => .inr ⟨hk4t.trans (by rw [devF, if_neg (by omega)]; rfl), ⟨T, u, rfl⟩, (st.turns hF (by simp [hp0]) (i := 0) rfl).imp fun _ h => h.2⟩) ?_
          rintro _ ⟨hm, rfl⟩
          have h4 : 4 ≤ args.length := by omega
          rw [devF, if_pos h4] at hk4t
          obtain ⟨sm, hsm⟩ : ∃ sm, args[3]? = some sm := ⟨_, List.getElem?_eq_getElem (by omega)⟩
          rw [hsm, Option.bind_some] at hk4t
          have hst : ∀ s ∈ args.take 3, s.size < 4294967296 := fun s hs => hsr s (List.mem_of_mem_take hs)
          have hsd : ∀ s ∈ args.drop 4, s.size < 4294967296 := fun s hs => hsr s (List.mem_of_mem_drop hs)
          obtain ⟨ba, offa, rfl, hza, hcA⟩ := hS2.2 (by omega)
          refine XK.take 1 4 rfl rfl ?_
          dsimp only [List.set]
          refine XK.nilN ?_
          refine XK.seq ?_

          refine XK.region ?_
          refine xk_move rfl (by decide) ?_
          refine xk_sliceH 3 (el := 9) (sz := 1) (by kernel_rfl) (by kernel_rfl) rfl rfl rfl (by omega) (by decide) fun Ah hAh => ?_
          have hSh : SlS p0 1 Ah 3 (strCells (args.take 3)) := by
            have h := SlS.takeP (k := 3) hS2 (by omega) hAh
            rw [strCells_take] at h
            exact h
          refine xk_callX [] (f := 79) (fi := []) (ca := []) (by kernel_rfl) rfl rfl (by decide) (by simp) (fun v w w' => ∃ l A' c', numsF (args.take 3) = some l ∧ v = .slice A' l.length c' ∧ SlS (fresh w w') 1 A' l.length (intCells l)) (numsF (args.take 3) = none) (fun w1 st => toInts_x (args.take 3) Ah 3 ca w1 (hSh.le (st.le (by simp))) (by simp; omega) (by omega) hst) (fun hp T u => by
            (repeat (first | refine XK.thenP ?_ | refine XK.inP ?_))
            exact XK.retP fun w1 st => .inr ⟨hk4t.trans (by rw [hp]; rfl), ⟨T, u, rfl⟩, (st.turns hF (by simp [hp0]) (i := 0) rfl).imp fun _ h => h.2⟩) ?_
          rintro _ w1 q1 ⟨l3, A5, c5, hl3', rfl, hS5⟩ hq1 _ hF1
          have hS5 := hS5.le hq1
          obtain ⟨x, y, z, rfl⟩ := len3 (show l3.length = 3 by rw [numsF_len _ _ hl3']; simp; omega)
          rw [hl3'] at hk4t
          obtain ⟨b5, off5, rfl, hz5, hc5⟩ := hS5.2 (by simp)
          obtain ⟨Ad, hAd, hrun⟩ := sliceL_all (P := Tryz.prog) (t := 42) (el := 9) (sz := 1) (n := args.length) (c := ca) (k := 4) (A := some ⟨ba, offa, none⟩) (kd := .i64) (by kernel_rfl) (by kernel_rfl) h4 hcal
          have hSd : SlS p0 1 Ad (args.length - 4) (strCells (args.drop 4)) := by
            have h := SlS.dropP (k := 4) hS2 h4 hAd
            rw [strCells_drop] at h
            exact h
          refine xk_assign rfl (by decide) ?_
          refine XK.nilN ?_

          refine XK.draw1 [q1, p0] [HP.blk g 28 [.slice A1 n1 c1, .slice A2 n2 c2, .slice A3 n3 c3, .slice A4 n4 c4], HP.many [HP.emp, HP.own 55 6 (.slice A1 n1 c1) n1 L1, HP.own 69 3 (.slice A2 n2 c2) n2 L2, HP.own 71 1 (.slice A3 n3 c3) n3 L3, HP.emp, HP.many rg, HP.pic (picY cs ds) (picY_mono cs ds)]] 24 (by kernel_rfl) (by kernel_rfl) ?_
          refine XA.dA 0 rfl rfl rfl (does_move rfl) ?_
          refine XA.dA 1 rfl rfl rfl (does_move rfl) ?_
          refine XA.dA 2 rfl rfl rfl (does_nilC rfl) ?_
          refine XA.dA 3 rfl rfl rfl (does_field (off := 3) (by kernel_rfl) rfl) ?_
          refine XA.dA 4 rfl rfl rfl (does_ld rfl) ?_
          refine XA.dA 5 rfl rfl rfl (does_move rfl) ?_
          refine XA.dA 6 rfl rfl rfl (does_at 0 (off5 + 0) (el := 3) (sz := 1) (by kernel_rfl) (by kernel_rfl) rfl rfl rfl (by simp) (by omega)) ?_
          refine XA.dA 7 rfl rfl rfl (does_load (by kernel_rfl) rfl (Rd.ro (p := q1) (by simp) hz5 (hc5 0 _ rfl))) ?_
          refine XA.dA 8 rfl rfl rfl (does_move rfl) ?_
          refine XA.dA 9 rfl rfl rfl (does_at 1 (off5 + 1) (el := 3) (sz := 1) (by kernel_rfl) (by kernel_rfl) rfl rfl rfl (by simp) (by omega)) ?_
          refine XA.dA 10 rfl rfl rfl (does_load (by kernel_rfl) rfl (Rd.ro (p := q1) (by simp) hz5 (hc5 1 _ rfl))) ?_
          refine XA.dA 11 rfl rfl rfl (does_move rfl) ?_
          refine XA.dA 12 rfl rfl rfl (does_at 2 (off5 + 2) (el := 3) (sz := 1) (by kernel_rfl) (by kernel_rfl) rfl rfl rfl (by simp) (by omega)) ?_
          refine XA.dA 13 rfl rfl rfl (does_load (by kernel_rfl) rfl (Rd.ro (p := q1) (by simp) hz5 (hc5 2 _ rfl))) ?_
          refine XA.dA 14 rfl rfl rfl (does_move rfl) ?_
          refine XA.dA 15 rfl rfl rfl (does_at 3 (offa + 3) (el := 9) (sz := 1) (by kernel_rfl) (by kernel_rfl) rfl rfl rfl (by omega) (by omega)) ?_
          refine XA.dA 16 rfl rfl rfl (does_load (by kernel_rfl) rfl (Rd.ro (p := p0) (by simp) hza (hcA 3 _ (strCells_at hsm)))) ?_
          refine XA.dA 18 rfl rfl rfl (does_move rfl) ?_
          refine XA.dA 19 rfl rfl rfl (does_sliceL rfl rfl hrun) ?_
          refine XA.next 17 rfl (by kernel_rfl) ?_
          refine xk_callXV (f := 80) (fi := []) (ca := []) (by kernel_rfl) rfl rfl (by decide) (fun v => ∃ n : Nat, w32F sm = some n ∧ v = .int .u32 (n : Int)) (w32F sm = none) (fun w1 st => toWord32_x sm (hsr sm (List.mem_of_getElem? hsm)) w1) (fun hp T u => by
            (repeat (first | refine XK.thenP ?_ | refine XK.inP ?_))
            exact XK.retP fun w1 st => .inr ⟨hk4t.trans (by rw [hp]; rfl), ⟨T, u, rfl⟩, (st.turns hF (by simp [hp0]) (i := 0) rfl).imp fun _ h => h.2⟩) ?_
          rintro _ ⟨nm, hnm, rfl⟩
          rw [hnm] at hk4t
          refine XA.bk ?_
          refine XA.next 20 rfl (by kernel_rfl) ?_
          refine xk_callX [] (f := 79) (fi := []) (ca := []) (by kernel_rfl) rfl rfl (by decide) (by simp) (fun v w w' => ∃ l A' c', numsF (args.drop 4) = some l ∧ v = .slice A' l.length c' ∧ SlS (fresh w w') 1 A' l.length (intCells l)) (numsF (args.drop 4) = none) (fun w1 st => toInts_x (args.drop 4) Ad (args.length - 4) (ca - 4) w1 (hSd.le (st.le (by simp))) (by simp) (by omega) hsd) (fun hp T u => by
            (repeat (first | refine XK.thenP ?_ | refine XK.inP ?_))
            exact XK.retP fun w1 st => .inr ⟨hk4t.trans (by rw [hp]; rfl), ⟨T, u, rfl⟩, (st.turns hF (by simp [hp0]) (i := 0) rfl).imp fun _ h => h.2⟩) ?_
          rintro _ w2 q2 ⟨ln, A6, c6, hln, rfl, hS6⟩ hq2 _ hF2
          have hS6 := hS6.le hq2
          have hF2 := hF2 (by simp)
          rw [hln] at hk4t
          have htk : takeF s (k0 :: args) = some ⟨s.clocks, s.domains, s.resets, s.devs ++ [⟨x, y, z, (nm : Int), [], ln⟩]⟩ := hk4t
          refine XA.bk ?_
          refine XA.dA 21 rfl rfl rfl (does_buildS (zs := [.int .i64 0, .int .i64 0, .int .i64 0, .int .u32 0, .slice none 0 0, .slice none 0 0]) (L := [(0, 1), (1, 1), (2, 1), (3, 1), (4, 1), (5, 1)]) (zeroB_of (by kernel_rfl)) (by kernel_rfl) rfl (by simp [fillL, setN, Value.cells]; rfl)) ?_
          refine XA.next 22 rfl (by kernel_rfl) ?_
          refine xk_slice (el := 51) (sz := 6) (zs := [.int .i64 0, .int .i64 0, .int .i64 0, .int .u32 0, .slice none 0 0, .slice none 0 0]) (by kernel_rfl) (zeroB_of (by kernel_rfl)) (by kernel_rfl) rfl (by decide) (by decide) rfl (by simp [fillL, setN, Value.cells, List.range_succ, List.set]; rfl) (by decide) fun g4 => ?_
          refine XA.bk ?_
          refine XA.next 23 rfl (by kernel_rfl) ?_
          refine xk_appendT 1 6 80 1 (n' := n4 + 1) (el := 51) (by kernel_rfl) (by kernel_rfl) (by decide) rfl rfl rfl (sl_blk 0 rfl rfl) (by simp [Value.oneCell']) rfl (by omega) (by omega) (by decide) fun An cn => ?_
          dsimp only [List.set]
          refine XA.bk ?_
          refine XA.next 24 rfl (by kernel_rfl) ?_
          refine xk_nilC rfl (by decide) ?_
          refine XA.bt ?_
          refine XA.next 25 rfl (by kernel_rfl) ?_
          refine xk_field (off := 3) (by kernel_rfl) rfl (by decide) ?_
          refine XA.bt ?_
          refine XA.next 26 rfl (by kernel_rfl) ?_
          refine xk_st rfl rfl ?_; dsimp only [List.set]
          refine XA.bt ?_
          refine XA.done (by kernel_rfl) ?_
          refine XK.norm ?_
          refine XK.weak [1, 2, 3] rfl (by decide) (R' := [q2, p0]) (by simp) ?_
          refine XK.ownP (Φ := sls1 A6 ln) (hm := sls1_mono A6 ln) hF2 hR0 hS6 ?_
          refine XK.take 3 6 rfl rfl ?_
          dsimp only [List.set]
          refine XK.joinPic (X := picY cs (ds ++ [(⟨x, y, z, (nm : Int), [], ln⟩, (none, 0), (A6, c6))])) (h3 := picY_mono _ _) (fun p h1 h2 => ⟨h1.1, fun x hx => by
            rcases List.mem_append.1 hx with hx | hx
            · exact h1.2 x hx
            · simp at hx; subst hx; exact h2⟩) ?_
          refine XK.give 2 6 rfl rfl ?_
          dsimp only [List.set]
          refine XK.take 2 5 rfl rfl ?_
          dsimp only [List.set]
          refine XK.nilrow 57 2 ?_
          refine XK.push ?_
          refine XK.give 2 5 rfl rfl ?_
          dsimp only [List.set]
          refine XK.give 1 4 rfl rfl ?_
          dsimp only [List.set]
          refine XK.give 0 0 rfl rfl ?_
          dsimp only [List.set]
          refine XK.toEx 0 (f := fun X0 : {X0 : SocY // X0.of ⟨s.clocks, s.domains, s.resets, s.devs ++ [⟨x, y, z, (nm : Int), [], ln⟩]⟩} => X0.1.hp g) ⟨⟨cs, dm, rs, ds ++ [(⟨x, y, z, (nm : Int), [], ln⟩, (none, 0), (A6, c6))], A1, n1, c1, A2, n2, c2, A3, n3, c3, An, n4 + 1, cn, L1, L2, L3, L4 ++ devRow (⟨x, y, z, (nm : Int), [], ln⟩, (none, 0), (A6, c6)), rg ++ [regOwn (⟨x, y, z, (nm : Int), [], ln⟩, (none, 0), (A6, c6))]⟩, ⟨e1, e2, e3, by simp [e4], e5, e6, e7, by simp [e8], e9, e10, e11, by simp [e12], by simp [e13]⟩⟩ rfl ?_
          exact XK.ret0 (.inr rfl) rfl fun w1 st => .inl ⟨rfl, by rw [htk]; rfl, by rw [htk]; exact st.turns hF (by simp [hp0]) (i := 0) rfl⟩
        ·
          refine XK.seq ?_

          refine XK.region ?_
          refine xk_eqlStr (by kernel_rfl) rfl rfl (by decide) ?_
          refine xk_assign rfl (by decide) ?_
          refine XK.nilN ?_
          refine XK.if_ rfl (fun hk5 => ?_) (fun hk5 => ?_)
          have hk5t : takeF s (k0 :: args) = regF s args := (if_neg hk1).trans ((if_neg hk2).trans ((if_neg hk3).trans ((if_neg hk4).trans (if_pos hk5))))
          ·
            refine XK.seq ?_

            refine XK.region ?_
            refine xk_move rfl (by decide) ?_
            refine xk_len (el := 9) (by kernel_rfl) rfl (by decide) ?_
            refine xk_eql rfl rfl (by decide) ?_
            refine xk_move rfl (by decide) ?_
            refine xk_split (t := 121) rfl (fun hg => ?_) (fun hg => ?_)
            ·
              refine xk_guardT rfl rfl ?_; refine xk_move rfl (by decide) ?_
              refine xk_guardT rfl rfl ?_; refine xk_nilC rfl (by decide) ?_
              refine xk_guardT rfl rfl ?_; refine xk_field (off := 3) (by kernel_rfl) rfl (by decide) ?_
              refine xk_guardT rfl rfl ?_; refine xk_ld rfl ?_
              refine xk_guardT rfl rfl ?_; refine xk_len (el := 51) (by kernel_rfl) rfl (by decide) ?_
              refine xk_guardT rfl rfl ?_; refine xk_gtr rfl rfl (by decide) ?_
              (first | refine xk_pickT rfl rfl (by decide) ?_ | refine xk_pickF rfl rfl (by decide) ?_)
              refine xk_callXV (f := 76) (fi := []) (ca := []) (by kernel_rfl) rfl rfl (by decide) (fun v => ((0 : Int) < n4) ∧ v = .tuple #[]) (¬ ((0 : Int) < n4)) (fun w1 st => must_x ((0 : Int) < n4) w1) (fun hp T u => by
                (repeat (first | refine XK.thenP ?_ | refine XK.inP ?_))
                exact XK.retP fun w1 st => .inr ⟨hk5t.trans (by
                  obtain ⟨sa, sb, rfl⟩ := len2 (show args.length = 2 by omega)
                  rw [regF, List.getElem?_eq_none (by omega)]), ⟨T, u, rfl⟩, (st.turns hF (by simp [hp0]) (i := 0) rfl).imp fun _ h => h.2⟩) ?_
              rintro _ ⟨hm, rfl⟩
              obtain ⟨sa, sb, rfl⟩ := len2 (show args.length = 2 by omega)
              obtain ⟨ba, offa, rfl, hza, hcA⟩ := hS2.2 (by simp)
              obtain ⟨X, hX⟩ : ∃ X, ds[n4 - 1]? = some X := ⟨_, List.getElem?_eq_getElem (by omega)⟩
              have hXs : s.devs[s.devs.length - 1]? = some X.1 := by rw [← hl4, ← e4, List.getElem?_map, hX]; rfl
              rw [regF, hXs] at hk5t
              have hXr : X.1.regs.length ≤ 8000 := hfew.regs X.1 (List.mem_of_getElem? hXs)
              obtain ⟨XD, ⟨X5, X5c⟩, ⟨X6, X6c⟩⟩ := X
              dsimp only at hk5t hXr
              refine XK.take 1 4 rfl rfl ?_
              dsimp only [List.set]
              refine XK.ownHead 0 rfl (by omega) fun gd hgd => ?_
              subst hgd
              refine XK.openOwn 0 rfl fun dc hd1 hd2 hd3 hd4 => ?_
              dsimp only [List.set]
              have hdr : dc[(n4 - 1) * 6 + 4]? = some (.slice X5 XD.regs.length X5c) := by
                have h := flat_get devRow 6 ds (fun y _ => devRow_len y) (n4 - 1) 4 _ hX (by omega)
                rw [← e12, ← hd2, List.getElem?_take, if_pos (by omega)] at h
                exact h
              refine XK.nilN ?_
              refine XK.seq ?_

              refine XK.draw1 [p0] [HP.blk gd 51 dc, HP.blk g 28 [.slice A1 n1 c1, .slice A2 n2 c2, .slice A3 n3 c3, .slice (some ⟨gd, 0, none⟩) n4 c4], HP.many [HP.emp, HP.own 55 6 (.slice A1 n1 c1) n1 L1, HP.own 69 3 (.slice A2 n2 c2) n2 L2, HP.own 71 1 (.slice A3 n3 c3) n3 L3, HP.emp, HP.many rg, HP.pic (picY cs ds) (picY_mono cs ds)]] 10 (by kernel_rfl) (by kernel_rfl) ?_
              refine XA.dA 0 rfl rfl rfl (does_move rfl) ?_
              refine XA.dA 1 rfl rfl rfl (does_nilC rfl) ?_
              refine XA.dA 2 rfl rfl rfl (does_field (off := 3) (by kernel_rfl) rfl) ?_
              refine XA.dA 3 rfl rfl rfl (does_ld rfl) ?_
              refine XA.dA 4 rfl rfl rfl (does_move rfl) ?_
              refine XA.dA 5 rfl rfl rfl (does_nilC rfl) ?_
              refine XA.dA 6 rfl rfl rfl (does_field (off := 3) (by kernel_rfl) rfl) ?_
              refine XA.dA 7 rfl rfl rfl (does_ld rfl) ?_
              refine XA.dA 8 rfl rfl rfl (does_len (el := 51) (by kernel_rfl) rfl) ?_
              refine XA.dA 9 rfl rfl rfl (does_sub rfl rfl (wrap_in (by omega))) ?_
              refine XA.next 10 rfl (by kernel_rfl) ?_
              refine xk_at (n4 - 1) ((n4 - 1) * 6) (el := 51) (sz := 6) (by kernel_rfl) (by kernel_rfl) rfl rfl (by omega) (by omega) (by omega) (by decide) ?_
              refine XA.bt ?_
              refine XA.next 11 rfl (by kernel_rfl) ?_
              refine xk_assign rfl (by decide) ?_
              refine XA.bt ?_
              refine XA.done (by kernel_rfl) ?_
              refine XK.norm ?_
              refine XK.take 2 5 rfl rfl ?_
              dsimp only [List.set]
              refine XK.take 0 (n4 - 1) (p := regOwn (XD, (X5, X5c), (X6, X6c))) rfl (by rw [e13, List.getElem?_map, hX]; rfl) ?_
              dsimp only [List.set, regOwn]

              refine XK.draw1 [p0] [HP.many (rg.set (n4 - 1) HP.emp), HP.blk gd 51 dc, HP.blk g 28 [.slice A1 n1 c1, .slice A2 n2 c2, .slice A3 n3 c3, .slice (some ⟨gd, 0, none⟩) n4 c4], HP.many [HP.emp, HP.own 55 6 (.slice A1 n1 c1) n1 L1, HP.own 69 3 (.slice A2 n2 c2) n2 L2, HP.own 71 1 (.slice A3 n3 c3) n3 L3, HP.emp, HP.emp, HP.pic (picY cs ds) (picY_mono cs ds)]] 16 (by kernel_rfl) (by kernel_rfl) ?_
              refine XA.dA 0 rfl rfl rfl (does_move rfl) ?_
              refine XA.dA 1 rfl rfl rfl (does_move rfl) ?_
              refine XA.dA 2 rfl rfl rfl (does_nilC rfl) ?_
              refine XA.dA 3 rfl rfl rfl (does_field (off := 4) (by kernel_rfl) rfl) ?_
              refine XA.dA 4 rfl rfl rfl (does_load (by kernel_rfl) rfl (Rd.blk 1 rfl hdr)) ?_
              refine XA.dA 5 rfl rfl rfl (does_move rfl) ?_
              refine XA.dA 6 rfl rfl rfl (does_at 0 (offa + 0) (el := 9) (sz := 1) (by kernel_rfl) (by kernel_rfl) rfl rfl rfl (by simp) (by omega)) ?_
              refine XA.dA 7 rfl rfl rfl (does_load (by kernel_rfl) rfl (Rd.ro (p := p0) (by simp) hza (hcA 0 _ rfl))) ?_
              refine XA.dA 9 rfl rfl rfl (does_move rfl) ?_
              refine XA.dA 10 rfl rfl rfl (does_at 1 (offa + 1) (el := 9) (sz := 1) (by kernel_rfl) (by kernel_rfl) rfl rfl rfl (by simp) (by omega)) ?_
              refine XA.dA 11 rfl rfl rfl (does_load (by kernel_rfl) rfl (Rd.ro (p := p0) (by simp) hza (hcA 1 _ rfl))) ?_
              refine XA.next 8 rfl (by kernel_rfl) ?_
              refine xk_callXV (f := 80) (fi := []) (ca := []) (by kernel_rfl) rfl rfl (by decide) (fun v => ∃ n : Nat, w32F sa = some n ∧ v = .int .u32 (n : Int)) (w32F sa = none) (fun w1 st => toWord32_x sa (hsr sa (by simp)) w1) (fun hp T u => by
                (repeat (first | refine XK.thenP ?_ | refine XK.inP ?_))
                exact XK.retP fun w1 st => .inr ⟨hk5t.trans (by rw [hp]), ⟨T, u, rfl⟩, (st.turns hF (by simp [hp0]) (i := 0) rfl).imp fun _ h => h.2⟩) ?_
              rintro _ ⟨nr, hnw, rfl⟩
              refine XA.bk ?_
              refine XA.next 12 rfl (by kernel_rfl) ?_
              refine xk_callXV (f := 78) (fi := []) (ca := []) (by kernel_rfl) rfl rfl (by decide) (fun v => ∃ b : Bool, keptF sb = some b ∧ v = .bool b) (keptF sb = none) (fun w1 st => toKept_x sb w1) (fun hp T u => by
                (repeat (first | refine XK.thenP ?_ | refine XK.inP ?_))
                exact XK.retP fun w1 st => .inr ⟨hk5t.trans (by rw [hnw, hp]), ⟨T, u, rfl⟩, (st.turns hF (by simp [hp0]) (i := 0) rfl).imp fun _ h => h.2⟩) ?_
              rintro _ ⟨kp, hkp, rfl⟩
              have htk : takeF s (k0 :: [sa, sb]) = some ⟨s.clocks, s.domains, s.resets, s.devs.set (s.devs.length - 1) ⟨XD.clock, XD.domain, XD.reset, XD.clamp, XD.regs ++ [⟨(nr : Int), kp⟩], XD.needs⟩⟩ := hk5t.trans (by rw [hnw, hkp])
              refine XA.bk ?_
              refine XA.dA 13 rfl rfl rfl (does_buildS (zs := [.int .u32 0, .bool false]) (L := [(0, 1), (1, 1)]) (zeroB_of (by kernel_rfl)) (by kernel_rfl) rfl (by simp [fillL, setN, Value.cells]; rfl)) ?_
              refine XA.next 14 rfl (by kernel_rfl) ?_
              refine xk_slice (el := 57) (sz := 2) (zs := [.int .u32 0, .bool false]) (by kernel_rfl) (zeroB_of (by kernel_rfl)) (by kernel_rfl) rfl (by decide) (by decide) rfl (by simp [fillL, setN, Value.cells, List.range_succ, List.set]; rfl) (by decide) fun g5 => ?_
              refine XA.bk ?_
              refine XA.next 15 rfl (by kernel_rfl) ?_
              refine xk_appendT 1 2 8 1 (n' := XD.regs.length + 1) (el := 57) (by kernel_rfl) (by kernel_rfl) (by decide) rfl rfl rfl (sl_blk 0 rfl rfl) (by simp [Value.oneCell']) rfl (by omega) (by omega) (by decide) fun An cn => ?_
              dsimp only [List.set]
              refine XA.bk ?_
              refine XA.next 16 rfl (by kernel_rfl) ?_
              refine xk_nilC rfl (by decide) ?_
              refine XA.bt ?_
              refine XA.next 17 rfl (by kernel_rfl) ?_
              refine xk_field (off := 4) (by kernel_rfl) rfl (by decide) ?_
              refine XA.bt ?_
              refine XA.next 18 rfl (by kernel_rfl) ?_
              refine xk_store 3 rfl (by kernel_rfl) rfl rfl rfl (by omega) ?_
              dsimp only [List.set]
              refine XA.bt ?_
              refine XA.done (by kernel_rfl) ?_
              refine XK.norm ?_
              refine XK.weak [1, 2, 3, 4, 5] rfl (by decide) (fun _ h => h) ?_
              refine XK.closeOwn 2 (n := n4) (c := c4) (sz := 6) (el := 51) (xs := (ds.set (n4 - 1) (⟨XD.clock, XD.domain, XD.reset, XD.clamp, XD.regs ++ [⟨(nr : Int), kp⟩], XD.needs⟩, (An, cn), (X6, X6c))).flatMap devRow) rfl (by rw [List.length_set]; exact hd1) (by rw [List.take_set, hd2, e12]; exact flat_set devRow 6 4 _ (by omega) ds (n4 - 1) _ (fun y _ => devRow_len y) hX (by simp [devRow])) hd3 hd4 ?_
              dsimp only [List.set]
              refine XK.give 0 (n4 - 1) rfl (by rw [List.getElem?_set_self (by rw [e13]; simp; omega)]) ?_
              dsimp only [List.set]
              rw [List.set_set]
              refine XK.give 2 5 rfl rfl ?_
              dsimp only [List.set]
              refine XK.take 2 6 rfl rfl ?_
              dsimp only [List.set]
              refine XK.reuse 0 (q := HP.pic (picY cs (ds.set (n4 - 1) (⟨XD.clock, XD.domain, XD.reset, XD.clamp, XD.regs ++ [⟨(nr : Int), kp⟩], XD.needs⟩, (An, cn), (X6, X6c)))) (picY_mono _ _)) rfl (fun F w h => ⟨h.1, fun x hx => by
                rcases List.mem_or_eq_of_mem_set hx with hx | hx
                · exact h.2 x hx
                · subst hx; exact h.2 (XD, (X5, X5c), (X6, X6c)) (List.mem_of_getElem? hX)⟩) ?_
              dsimp only [List.set]
              refine XK.give 2 6 rfl rfl ?_
              dsimp only [List.set]
              refine XK.give 1 4 rfl rfl ?_
              dsimp only [List.set]
              refine XK.give 0 0 rfl rfl ?_
              dsimp only [List.set]
              refine XK.toEx 0 (f := fun X0 : {X0 : SocY // X0.of ⟨s.clocks, s.domains, s.resets, s.devs.set (s.devs.length - 1) ⟨XD.clock, XD.domain, XD.reset, XD.clamp, XD.regs ++ [⟨(nr : Int), kp⟩], XD.needs⟩⟩} => X0.1.hp g) ⟨⟨cs, dm, rs, ds.set (n4 - 1) (⟨XD.clock, XD.domain, XD.reset, XD.clamp, XD.regs ++ [⟨(nr : Int), kp⟩], XD.needs⟩, (An, cn), (X6, X6c)), A1, n1, c1, A2, n2, c2, A3, n3, c3, some ⟨gd, 0, none⟩, n4, c4, L1, L2, L3, (ds.set (n4 - 1) (⟨XD.clock, XD.domain, XD.reset, XD.clamp, XD.regs ++ [⟨(nr : Int), kp⟩], XD.needs⟩, (An, cn), (X6, X6c))).flatMap devRow, rg.set (n4 - 1) (HP.own 57 2 (.slice An (XD.regs.length + 1) cn) (XD.regs.length + 1) (XD.regs.flatMap Rg.cells ++ [.int .u32 (nr : Int), .bool kp]))⟩, ⟨e1, e2, e3, by rw [List.map_set, e4, ← hl4], e5, e6, e7, by rw [List.length_set]; exact e8, e9, e10, e11, rfl, by rw [e13, List.map_set]; simp [regOwn, Rg.cells]⟩⟩ rfl ?_
              exact XK.ret0 (.inr rfl) rfl fun w1 st => .inl ⟨rfl, by rw [htk]; rfl, by rw [htk]; exact st.turns hF (by simp [hp0]) (i := 0) rfl⟩
            ·
              refine xk_guardF rfl rfl rfl (by decide) ?_
              refine xk_guardF rfl rfl rfl (by decide) ?_
              refine xk_guardF rfl rfl rfl (by decide) ?_
              refine xk_guardF rfl rfl rfl (by decide) ?_
              refine xk_guardF rfl rfl rfl (by decide) ?_
              refine xk_guardF rfl rfl rfl (by decide) ?_
              (first | refine xk_pickT rfl rfl (by decide) ?_ | refine xk_pickF rfl rfl (by decide) ?_)
              refine xk_callXV (f := 76) (fi := []) (ca := []) (by kernel_rfl) rfl rfl (by decide) (fun v => (False) ∧ v = .tuple #[]) (¬ (False)) (fun w1 st => must_x (False) w1) (fun hp T u => by
                (repeat (first | refine XK.thenP ?_ | refine XK.inP ?_))
                exact XK.retP fun w1 st => .inr ⟨hk5t.trans (by
                  have h2 : args.length ≠ 2 := by omega
                  match args, h2 with
                  | [], _ => rfl
                  | [a], _ => rfl
                  | [a, b], h2 => simp at h2
                  | a :: b :: c :: r, _ => rfl), ⟨T, u, rfl⟩, (st.turns hF (by simp [hp0]) (i := 0) rfl).imp fun _ h => h.2⟩) ?_
              rintro _ ⟨hm, rfl⟩
              exact hm.elim

          ·

            refine XK.region ?_
            refine xk_buildS (zs := []) (L := []) (zeroB_of (by kernel_rfl)) (by kernel_rfl) rfl (by simp [fillL, setN, Value.cells]; rfl) (by decide) ?_
            refine xk_iface (T := 59) (by kernel_rfl) rfl (by decide) ?_
            refine xk_panic rfl ?_
            (repeat (first | refine XK.thenP ?_ | refine XK.inP ?_))
            exact XK.retP fun w1 st => .inr ⟨(if_neg hk1).trans ((if_neg hk2).trans ((if_neg hk3).trans ((if_neg hk4).trans (if_neg hk5)))), ⟨_, _, rfl⟩, (st.turns hF (by simp [hp0]) (i := 0) rfl).imp fun _ h => h.2⟩

end Go.Proofs.YtgopaoidgcgalaaGreatDoor
/- Texts in plain words: lines, words, and what they say of a chip. -/
namespace Go.Proofs.YtgopaoidgcgalaaGreatDoor
set_option linter.all false
open Go.RowKit
def cutC (c : UInt8) : List UInt8 → List UInt8 × List UInt8 × Bool
  | [] => ([], [], false)
  | b :: r => if b = c then ([], r, true) else (b :: (cutC c r).1, (cutC c r).2.1, (cutC c r).2.2)
def splitC (c : UInt8) : List UInt8 → List (List UInt8)
  | [] => [[]]
  | b :: r => if b = c then [] :: splitC c r else match splitC c r with
    | [] => [[b]]
    | x :: xs => (b :: x) :: xs
theorem splitC_ne (c : UInt8) (l : List UInt8) : splitC c l ≠ [] := by
  cases l with
  | nil => simp [splitC]
  | cons b r =>
    unfold splitC
    split
    · simp
    · split <;> simp
theorem index_cases (c : UInt8) : ∀ l : List UInt8, (Lib.index l [c] = -1 ∧ cutC c l = (l, [], false) ∧ splitC c l = [l]) ∨ ∃ i : Nat, Lib.index l [c] = i ∧ i < l.length ∧ cutC c l = (l.take i, l.drop (i + 1), true) ∧ splitC c l = l.take i :: splitC c (l.drop (i + 1))
  | [] => .inl ⟨rfl, rfl, rfl⟩
  | b :: r => by
    rw [Lib.index_one]
    unfold Lib.indexByte
    by_cases hb : b = c
    · subst hb
      exact .inr ⟨0, by simp, by simp, by simp [cutC], by simp [splitC]⟩
    · have hbb : (b == c) = false := by simpa using hb
      rw [hbb]
      rcases index_cases c r with ⟨h1, h2, h3⟩ | ⟨i, h1, h2, h3, h4⟩
      · rw [Lib.index_one] at h1
        exact .inl ⟨by simp [h1], by simp [cutC, hb, h2], by simp [splitC, hb, h3]⟩
      · rw [Lib.index_one] at h1
        refine .inr ⟨i + 1, ?_, by simpa using h2, by simp [cutC, hb, h3], by simp [splitC, hb, h4]⟩
        have : ((i : Int) == -1) = false := by rw [beq_eq_false_iff_ne]; omega
        simp [h1, this]
theorem lib_cut (c : UInt8) (l : List UInt8) : Lib.cut l [c] = cutC c l := by
  rcases index_cases c l with ⟨h1, h2, _⟩ | ⟨i, h1, _, h3, _⟩
  · rw [Lib.cut, h1, h2]; rfl
  · rw [Lib.cut, h1, h3, if_pos (by omega)]; simp
theorem lib_split (c : UInt8) : ∀ (k : Nat) (l : List UInt8), Lib.count l [c] ≤ k → Lib.splitK [c] 0 k l = splitC c l
  | 0, l, h => by
    rcases index_cases c l with ⟨h1, _, h3⟩ | ⟨i, h1, _, _, _⟩
    · rw [h3]; rfl
    · have := Lib.count_hit (sub := [c]) (by simp) h1
      omega
  | k + 1, l, h => by
    rcases index_cases c l with ⟨h1, _, h3⟩ | ⟨i, h1, _, _, h4⟩
    · rw [h3, Lib.splitK, h1]; rfl
    · have h5 := Lib.count_hit (sub := [c]) (by simp) h1
      have : ((i : Int) == -1) = false := by rw [beq_eq_false_iff_ne]; omega
      rw [h4, Lib.splitK, h1, this]
      simp only [Bool.false_eq_true, if_false, Int.toNat_natCast, List.length_singleton, Nat.add_zero]
      rw [lib_split c k _ (by simp only [List.length_singleton] at h5; omega)]
def strOf (l : List UInt8) : ByteArray := ⟨l.toArray⟩
theorem strOf_data (s : ByteArray) : strOf s.data.toList = s := by simp [strOf]
theorem strOf_size (l : List UInt8) : (strOf l).size = l.length := by simp [strOf, ByteArray.size]
def wordsF (s : List UInt8) : List ByteArray := (splitC 32 s).map strOf
theorem wordsB (s : ByteArray) : Lib.splitB ⟨#[32]⟩ 0 (Lib.countB s ⟨#[32]⟩) s = wordsF s.data.toList := by
  have h := Lib.splitB_data ⟨#[32]⟩ 0 (Lib.countB s ⟨#[32]⟩) s
  rw [show (ByteArray.mk #[32]).data.toList = [32] from rfl, lib_split 32 _ _ (Nat.le_of_eq rfl)] at h
  rw [wordsF, ← h, List.map_map]
  conv => lhs; rw [← List.map_id (Lib.splitB _ _ _ _)]
  congr 1
  all_goals first | (funext x; exact (strOf_data x).symm) | skip
theorem splitC_len (c : UInt8) : ∀ l : List UInt8, (splitC c l).length ≤ l.length + 1 ∧ ∀ x ∈ splitC c l, x.length ≤ l.length
  | [] => by simp [splitC]
  | b :: r => by
    have ih := splitC_len c r
    unfold splitC
    split
    · exact ⟨by simpa using ih.1, fun x hx => by
        rcases List.mem_cons.1 hx with rfl | hx
        · simp
        · have := ih.2 x hx; simp; omega⟩
    · cases hs : splitC c r with
      | nil => exact absurd hs (splitC_ne c r)
      | cons y ys =>
        rw [hs] at ih
        refine ⟨by have := ih.1; simp at this ⊢; omega, fun x hx => ?_⟩
        rcases List.mem_cons.1 hx with rfl | hx
        · have := ih.2 y (by simp); simp; omega
        · have := ih.2 x (by simp [hx]); simp; omega
/-- the lines of a text; none: the last one does not end -/
def linesF : List UInt8 → List UInt8 → Option (List (List UInt8))
  | acc, [] => if acc.isEmpty then some [] else none
  | acc, b :: r => if b = 10 then (linesF [] r).map (acc :: ·) else linesF (acc ++ [b]) r
theorem linesF_acc : ∀ (l acc : List UInt8), linesF acc l = if (cutC 10 l).2.2 then (linesF [] (cutC 10 l).2.1).map ((acc ++ (cutC 10 l).1) :: ·) else if acc.isEmpty && l.isEmpty then some [] else none
  | [], acc => by unfold linesF cutC; cases acc <;> simp
  | b :: r, acc => by
    show (if b = 10 then (linesF [] r).map (acc :: ·) else linesF (acc ++ [b]) r) = _
    by_cases hb : b = 10
    · rw [if_pos hb, cutC, if_pos hb]; simp
    · rw [if_neg hb, cutC, if_neg hb, linesF_acc r (acc ++ [b])]
      cases h : (cutC 10 r).2.2 <;> simp
theorem linesF_cut (l : List UInt8) (hl : l ≠ []) : linesF [] l = if (cutC 10 l).2.2 then (linesF [] (cutC 10 l).2.1).map ((cutC 10 l).1 :: ·) else none := by
  rw [linesF_acc]
  cases l with
  | nil => exact absurd rfl hl
  | cons b r => simp
theorem cutC_len (c : UInt8) : ∀ l : List UInt8, (cutC c l).2.2 = true → (cutC c l).1.length + (cutC c l).2.1.length + 1 = l.length
  | [], h => by simp [cutC] at h
  | b :: r, h => by
    unfold cutC at h ⊢
    split
    · simp
    · rename_i hb
      rw [if_neg hb] at h
      have := cutC_len c r h
      simp; omega
/-- all lines are taken -/
def takeAll (s : Soc) : List (List UInt8) → Option Soc
  | [] => some s
  | l :: ls => (takeF s (wordsF l)).bind fun s' => takeAll s' ls
def contF (s : Soc) (l : List UInt8) : Option Soc := (linesF [] l).bind (takeAll s)
theorem contF_nil (s : Soc) : contF s [] = some s := rfl
theorem contF_bad {s : Soc} {l : List UInt8} (hl : l ≠ []) (h : (cutC 10 l).2.2 = false) : contF s l = none := by
  rw [contF, linesF_cut l hl, h]; rfl
theorem contF_line {s : Soc} {l : List UInt8} (hl : l ≠ []) (h : (cutC 10 l).2.2 = true) : contF s l = (takeF s (wordsF (cutC 10 l).1)).bind fun s' => contF s' (cutC 10 l).2.1 := by
  rw [contF, linesF_cut l hl, h, if_pos rfl]
  cases hf : linesF [] (cutC 10 l).2.1 with
  | none =>
    simp only [Option.map_none, Option.bind_none, contF, hf]
    cases takeF s (wordsF (cutC 10 l).1) <;> rfl
  | some ls =>
    simp only [Option.map_some, Option.bind_some, takeAll, contF, hf]
def soc0 : Soc := ⟨[], [], [], []⟩
/-- the chip that a text describes, by its lines -/
def readF (t : ByteArray) : Option Soc := if 8000 < t.size then none else contF soc0 t.data.toList
/-- what a text says: an errno, a chip -/
def parseF (t : ByteArray) : Int × Soc := match readF t with
  | none => (2, soc0)
  | some s => if checkS s = 0 then (0, s) else (checkS s, soc0)
theorem few0 : soc0.few 0 := ⟨by simp [soc0], by simp [soc0], by simp [soc0], by simp [soc0], fun d hd => by simp [soc0] at hd⟩
theorem Soc.few.le {s : Soc} {k m : Nat} (h : s.few k) (hkm : k ≤ m) : s.few m := ⟨Nat.le_trans h.clocks hkm, Nat.le_trans h.domains hkm, Nat.le_trans h.resets hkm, Nat.le_trans h.devs hkm, fun d hd => Nat.le_trans (h.regs d hd) hkm⟩
theorem devF_regs {args : List ByteArray} {d : Dev} (h : devF args = some d) : d.regs = [] := by
  unfold devF at h
  split at h
  · split at h
    · cases h; rfl
    · cases h
  · cases h
theorem takeF_few {s s' : Soc} {ws : List ByteArray} {k : Nat} (h : takeF s ws = some s') (hf : s.few k) : s'.few (k + 1) := by
  have hf' := hf.le (Nat.le_succ k)
  cases ws with
  | nil => cases h
  | cons w args =>
    rw [takeF] at h
    split at h
    · rw [Option.map_eq_some_iff] at h; obtain ⟨c, _, rfl⟩ := h
      exact ⟨by have := hf.clocks; simp; omega, hf'.domains, hf'.resets, hf'.devs, hf'.regs⟩
    · split at h
      · rw [Option.map_eq_some_iff] at h; obtain ⟨c, _, rfl⟩ := h
        exact ⟨hf'.clocks, by have := hf.domains; simp; omega, hf'.resets, hf'.devs, hf'.regs⟩
      · split at h
        · rw [Option.map_eq_some_iff] at h; obtain ⟨c, _, rfl⟩ := h
          exact ⟨hf'.clocks, hf'.domains, by have := hf.resets; simp; omega, hf'.devs, hf'.regs⟩
        · split at h
          · rw [Option.map_eq_some_iff] at h; obtain ⟨d, hd, rfl⟩ := h
            refine ⟨hf'.clocks, hf'.domains, hf'.resets, by have := hf.devs; simp; omega, fun x hx => ?_⟩
            rcases List.mem_append.1 hx with hx | hx
            · exact hf'.regs x hx
            · simp at hx; subst hx; rw [devF_regs hd]; simp
          · split at h
            · unfold regF at h
              split at h
              · split at h
                · rename_i d r kp hd hr hk
                  cases h
                  refine ⟨hf'.clocks, hf'.domains, hf'.resets, by simpa using hf'.devs, fun x hx => ?_⟩
                  rcases List.mem_or_eq_of_mem_set hx with hx | rfl
                  · exact hf'.regs x hx
                  · have := hf.regs d (List.mem_of_getElem? hd); simp; omega
                · cases h
              · cases h
            · cases h
/-- the rows of numbers are short -/
def Soc.short (s : Soc) : Prop := (∀ c ∈ s.clocks, c.src.length ≤ 8000) ∧ ∀ d ∈ s.devs, d.needs.length ≤ 8000
theorem clockF_short {args : List ByteArray} {c : Clk} (h : clockF args = some c) : c.src.length ≤ args.length := by
  unfold clockF at h
  split at h
  · cases h
  · split at h
    · rename_i k r hk
      cases hn : numsF r with
      | none => rw [hn] at h; cases h
      | some l =>
        have hl := numsF_len r l hn
        rw [hn] at h
        unfold clockN at h
        dsimp only at h
        repeat' (split at h)
        all_goals first | (cases h; done) | (cases h; simp; done) | (cases h; simp at hl ⊢; omega)
    · cases h
theorem devF_short {args : List ByteArray} {d : Dev} (h : devF args = some d) : d.needs.length ≤ args.length := by
  unfold devF at h
  split at h
  · split at h
    · rename_i l h1 _ h3
      cases h
      have := numsF_len _ _ h3
      simp at this ⊢; omega
    · cases h
  · cases h
theorem takeF_short {s s' : Soc} {ws : List ByteArray} (h : takeF s ws = some s') (hw : ws.length ≤ 8001) (hs : s.short) : s'.short := by
  cases ws with
  | nil => cases h
  | cons w args =>
    have ha : args.length ≤ 8000 := by simp at hw; omega
    rw [takeF] at h
    split at h
    · rw [Option.map_eq_some_iff] at h; obtain ⟨c, hc, rfl⟩ := h
      refine ⟨fun x hx => ?_, hs.2⟩
      rcases List.mem_append.1 hx with hx | hx
      · exact hs.1 x hx
      · simp at hx; subst hx; exact Nat.le_trans (clockF_short hc) ha
    · split at h
      · rw [Option.map_eq_some_iff] at h; obtain ⟨c, _, rfl⟩ := h; exact hs
      · split at h
        · rw [Option.map_eq_some_iff] at h; obtain ⟨c, _, rfl⟩ := h; exact hs
        · split at h
          · rw [Option.map_eq_some_iff] at h; obtain ⟨d, hd, rfl⟩ := h
            refine ⟨hs.1, fun x hx => ?_⟩
            rcases List.mem_append.1 hx with hx | hx
            · exact hs.2 x hx
            · simp at hx; subst hx; exact Nat.le_trans (devF_short hd) ha
          · split at h
            · unfold regF at h
              split at h
              · split at h
                · rename_i d r kp hd hr hk
                  cases h
                  refine ⟨hs.1, fun x hx => ?_⟩
                  rcases List.mem_or_eq_of_mem_set hx with hx | rfl
                  · exact hs.2 x hx
                  · exact hs.2 d (List.mem_of_getElem? hd)
                · cases h
              · cases h
            · cases h
end Go.Proofs.YtgopaoidgcgalaaGreatDoor
/- Digits, in plain words. -/
namespace Go.Proofs.YtgopaoidgcgalaaGreatDoor
set_option linter.all false
open Go.RowKit
theorem dd_small {n : Nat} (h : n < 10) : Lib.decDigits n = [UInt8.ofNat (48 + n)] := by rw [Lib.decDigits, dif_pos h]
theorem dd_big {n : Nat} (h : ¬ n < 10) : Lib.decDigits n = Lib.decDigits (n / 10) ++ [UInt8.ofNat (48 + n % 10)] := by rw [Lib.decDigits, dif_neg h]
theorem dd_len (k : Nat) : ∀ n : Nat, n < 10 ^ (k + 1) → (Lib.decDigits n).length ≤ k + 1 := by
  induction k with
  | zero => intro n h; rw [dd_small (by simpa using h)]; simp
  | succ k ih =>
    intro n h
    by_cases hn : n < 10
    · rw [dd_small hn]; simp
    · rw [dd_big hn]
      have := ih (n / 10) (by rw [Nat.pow_succ] at h; omega)
      simp; omega
theorem strOf_append (a b : List UInt8) : strOf a ++ strOf b = strOf (a ++ b) := ByteArray.mk_append_mk a b
/-- what digits has still to say -/
def fullD (n : Nat) (acc : List UInt8) : List UInt8 := if 0 < n ∨ acc = [] then Lib.decDigits n ++ acc else acc
theorem fullD_step {n : Nat} {acc : List UInt8} (h : 0 < n ∨ acc = []) : fullD n acc = fullD (n / 10) (UInt8.ofNat (48 + n % 10) :: acc) := by
  unfold fullD
  rw [if_pos h]
  by_cases hn : n < 10
  · rw [if_neg (by simp; omega), dd_small hn, Nat.mod_eq_of_lt hn]; rfl
  · rw [if_pos (.inl (by omega)), dd_big hn]; simp
theorem fullD_nil (n : Nat) : fullD n [] = Lib.decDigits n := by unfold fullD; rw [if_pos (.inr rfl), List.append_nil]
theorem fullD_end {acc : List UInt8} (h : acc ≠ []) : fullD 0 acc = acc := by unfold fullD; rw [if_neg (by simp [h])]
theorem dig_char {d : Nat} (h : d < 10) : (⟨#[48, 49, 50, 51, 52, 53, 54, 55, 56, 57]⟩ : ByteArray).extract d (d + 1) = strOf [UInt8.ofNat (48 + d)] := by
  match d, h with
  | 0, _ => rfl
  | 1, _ => rfl
  | 2, _ => rfl
  | 3, _ => rfl
  | 4, _ => rfl
  | 5, _ => rfl
  | 6, _ => rfl
  | 7, _ => rfl
  | 8, _ => rfl
  | 9, _ => rfl
end Go.Proofs.YtgopaoidgcgalaaGreatDoor
/- Numbers to words: FormatUint. -/
namespace Go.Proofs.YtgopaoidgcgalaaGreatDoor
set_option linter.all false
open Go.RowKit
abbrev PowTab (w : World) : Prop := Lib.TabIs Tryz.prog w "internal/strconv.uint64pow10" .u64 Lib.pow10Tab
theorem PowTab.go {w w' : World} (h : PowTab w) (hb : Below w.heap.size w w') : PowTab w' := by
  unfold PowTab Lib.TabIs World.var? at *
  cases hg : Tryz.prog.globalNamed "internal/strconv.uint64pow10" with
  | none => simp [hg] at h
  | some g =>
    simp only [hg, Option.bind_some] at h ⊢
    have hlt : g < w.heap.size := by
      rcases Nat.lt_or_ge g w.heap.size with hl | hl
      · exact hl
      · rw [Array.getElem?_eq_none hl] at h; cases h
    rw [hb.block g hlt]
    exact h
def zerosL (n : Nat) : List Value := List.replicate n (.int .u8 0)
/-- a row whose head is u's numeral -/
abbrev NumX (u : Nat) : Type := {cs : List Value // ∀ (j : Nat) (b : UInt8), (Lib.decDigits u)[j]? = some b → cs[j]? = some (.int .u8 (b.toNat : Int))}
theorem fmtB_ok (g u : Nat) (hu1 : 1 ≤ u) (hu : u < 18446744073709551616) (w : World) (F : Nat → Prop) (hp : (HP.blk g 155 (zerosL 24)).sat F w) (hF : ∀ b, F b → b < w.heap.size) :
    Calls Tryz.prog 144 #[.slice (some ⟨g, 0, none⟩) (Lib.nDigits u) 24, .int .u64 u] w (fun y w' => y = .returned (.tuple #[]) ∧ ∃ F', (HP.ex fun x : NumX u => HP.blk g 155 x.1).sat F' w' ∧ Turns w w' F F') := by
  have hnd : Lib.nDigits u ≤ 20 := by have := Lib.numDigits_eq u hu1 hu; split at this <;> omega
  have hblk : w.heap[g]? = some (.cells (zerosL 24).toArray 155 (0, 0)) := hp.2
  have hz : ∀ j, j < 24 → (zerosL 24).toArray[j]? = some (.int .u8 0) := fun j hj => by rw [List.getElem?_toArray, zerosL, List.getElem?_replicate, if_pos hj]
  have hH : Sort.Holds (fun b : UInt8 => Value.int .u8 (b.toNat : Int)) w g 0 (Array.replicate (Lib.nDigits u) 0) := fun j hj => by
    have hj' : j < Lib.nDigits u := by simpa using hj
    refine ⟨?_, ?_⟩
    · rw [getElem!_pos _ j hj]
      simp only [World.cell?, hblk, Nat.zero_add]
      rw [hz j (by omega), Array.getElem_replicate]; rfl
    · simp [World.frozen?, hblk]
  have hc := Tryz.internal_strconv_formatBase10 g 0 24 u (Array.replicate (Lib.nDigits u) 0) w hH (by rw [Array.size_replicate]; exact Lib.lt_pow_nDigits u) hu (by rw [Array.size_replicate]; omega)
  rw [Array.size_replicate] at hc
  refine hc.mono fun y w' hy => ?_
  obtain ⟨rfl, n, v', dk, rfl, hI⟩ := hy
  have hheap : ((Sort.putRow (fun b : UInt8 => Value.int .u8 (b.toNat : Int)) w g 0 dk).drewN n).heap = w.heap.modify g (Sort.onCells (Sort.putCells (fun b : UInt8 => Value.int .u8 (b.toNat : Int)) 0 dk)) := by
    show (World.drewN _ n).heap = _
    rw [World.heap_drewN]; rfl
  have hglt : g < w.heap.size := hF g hp.1
  refine ⟨rfl, F, ⟨⟨(Sort.putCells (fun b : UInt8 => Value.int .u8 (b.toNat : Int)) 0 dk (zerosL 24).toArray).toList, fun j b hj => ?_⟩, hp.1, ?_⟩, ?_⟩
  · obtain ⟨hj1, hj2⟩ := List.getElem?_eq_some_iff.1 hj
    have hj3 := hj1
    rw [Lib.decDigits_length] at hj3
    have hr := Lib.row_is_numeral hI j hj1
    rw [hj2] at hr
    rw [Array.getElem?_toList]
    unfold Sort.putCells
    rw [Array.getElem?_mapIdx, hz j (by omega), Option.map_some, if_pos ⟨Nat.zero_le _, by rw [hI.size]; omega⟩, Nat.sub_zero, ← hr]
  · unfold Blk
    rw [hheap, Array.getElem?_modify, if_pos rfl, hblk]
    simp [Sort.onCells]
  · have hD := Below.drewN (Sort.putRow (fun b : UInt8 => Value.int .u8 (b.toNat : Int)) w g 0 dk) n
    exact ⟨hD.os, hD.tape, hD.output, by rw [hheap, Array.size_modify]; exact Nat.le_refl _, fun b hb => ⟨.inl hb, by rw [hheap, Array.size_modify]; exact hF b hb⟩, fun b hb hnb => by
      rw [hheap, Array.getElem?_modify, if_neg (fun he => hnb (by rw [← he]; exact hp.1))]⟩
section
variable {P : Program} {N : Frm} {w0 : World} {e : Env} {R : List Piece} {H : List HP} {Q : Exit → Act → World → Prop} {ops : Array Oper} {rest : List Oper}
variable {d : Nat} {ty : TypeId} {pos : String} {aft : Array Edge}
/-- string(bytes) -/
theorem xk_bytesStr {x : Operand} {src dst el : TypeId} {b o n c : Nat} (l : List UInt8) (hs : P.underlying src = some (.slice el)) (he : P.underlying el = some (.int .u8)) (ht : P.underlying dst = some .string) (hx : e.ev x = some (.slice (some ⟨b, o, none⟩) n c)) (hn : l.length = n) (hr : ∀ w, St w0 R H w → w.rangeAt b o (Lib.byteCells l)) (hd : d < N.n)
    (k : XK N w0 (wpList P ops Q rest) ((d, .string (strOf l)) :: e) R H) : XK N w0 (wpList P ops Q (⟨some d, .convert src dst x, ty, pos, aft, none⟩ :: rest)) e R H :=
  xk_val hd (fun a w hrp st => by
    subst hn
    have h := run_convert_bytes_back (P := P) w src dst el ⟨b, o, none⟩ c l hs he ht (fun j hj => by
      rw [Lib.add_plain]
      exact hr w st j _ (by simp [Lib.byteCells, hj]))
    simp [execOp, hrp.ev hx, h]
    rfl) k
end

theorem fmtU_ok (u : Nat) (hu64 : u < 18446744073709551616) (w : World) (htab : PowTab w) :
    Calls Tryz.prog 129 #[.int .u64 (u : Int), .int .i64 10] w (Rt (.string (strOf (Lib.decDigits u))) w) := by
  refine XK.enter (vs := [.int .u64 (u : Int), .int .i64 10]) Tryz.func129 rfl Tryz.ntmps129 (by simp) ?_
  refine XK.seq ?_

  refine XK.region ?_
  refine xk_assign rfl (by decide) ?_
  refine XK.nilN ?_
  refine XK.seq ?_
  refine XK.seq ?_

  refine XK.region ?_
  refine xk_move rfl (by decide) ?_
  refine xk_eql rfl rfl (by decide) ?_
  refine XK.nilN ?_
  refine XK.if_ rfl (fun _ => ?_) (fun h => absurd rfl h)
  ·
    refine XK.seq ?_
    refine XK.seq ?_

    refine XK.region ?_
    refine xk_move rfl (by decide) ?_
    refine xk_lss rfl rfl (by decide) ?_
    refine XK.nilN ?_
    refine XK.if_ rfl (fun hs => ?_) (fun hs => ?_)
    ·
      refine XK.seq ?_

      refine XK.region ?_
      refine xk_move rfl (by decide) ?_
      refine xk_conv (ds := .int .u64) (by kernel_rfl) (by kernel_rfl) rfl (wrap_in (by omega)) (by decide) ?_
      refine xk_callR (f := 142) (fi := []) (ca := []) (by kernel_rfl) rfl rfl (by decide) (fun w1 st => (Tryz.internal_strconv_small u (by omega) w1).mono fun y w2 hy => ⟨hy.1, by rw [hy.2]; exact Below.refl _ _⟩) ?_
      refine xk_assign rfl (by decide) ?_
      refine XK.nilN ?_
      refine XK.ret ?_
      refine XK.norm ?_
      exact XK.ret1 rfl rfl fun w1 st => ⟨rfl, st.below (by simp)⟩
    ·
      refine XK.skip ?_
      refine XK.norm ?_
      refine XK.seq ?_
      have hu1 : 1 ≤ u := by omega
      have hnd : Lib.nDigits u ≤ 20 := by have := Lib.numDigits_eq u hu1 hu64; split at this <;> omega
      have hal : Tryz.prog.arrayLen 155 = 24 := by kernel_rfl

      refine XK.region ?_
      refine xk_alloc (cs := zerosL 24) (zeroB_of (by kernel_rfl)) (by decide) fun g1 => ?_
      refine XK.nilN ?_
      refine XK.seq ?_

      refine XK.region ?_
      refine xk_move rfl (by decide) ?_
      refine xk_callR (f := 143) (fi := []) (ca := []) (by kernel_rfl) rfl rfl (by decide) (fun w1 st => (Tryz.internal_strconv_numDigits u hu1 hu64 w1 (PowTab.go htab (st.below (by simp)))).mono fun y w2 hy => ⟨hy.1, by rw [hy.2]; exact Below.refl _ _⟩) ?_
      refine xk_assign rfl (by decide) ?_
      refine XK.nilN ?_
      refine XK.seq ?_

      refine XK.region ?_
      refine xk_move rfl (by decide) ?_
      refine xk_val (v := .slice (some ⟨g1, 0, none⟩) (Lib.nDigits u) 24) (by decide) (fun a w1 hr st => by
        have hx := hr.ev (x := .tmp 5) rfl
        have hy := hr.ev (x := .tmp 18) rfl
        have hc := run_sliceAt_array_h (P := Tryz.prog) w1 155 ⟨g1, 0, none⟩ (by kernel_rfl) .i64 (Lib.nDigits u : Int) (by omega) (by rw [hal]; omega)
        have hsz : (sizeOf (Tryz.prog.elem 155)).run Tryz.prog w1 = .ok 1 w1 := by rw [show Tryz.prog.elem 155 = 5 from by kernel_rfl]; exact Tryz.sizeOf5 w1
        rw [hsz, hal] at hc
        simp [slicedAt, Addr.add] at hc
        simp [execOp, hx, hy, hc]) ?_
      refine xk_move rfl (by decide) ?_
      refine xk_callE 0 (f := 144) (fi := []) (ca := []) (HP.ex fun x : NumX u => HP.blk g1 155 x.1) (by kernel_rfl) rfl rfl rfl ⟨by decide, rfl⟩ (fun w1 F1 st hs hl hq => fmtB_ok g1 u hu1 hu64 w1 F1 hs hl) ?_
      dsimp only [List.set]
      refine XK.openEx 0 rfl ?_
      rintro ⟨cs, hcs⟩
      dsimp only [List.set]
      refine XK.nilN ?_
      refine XK.seq ?_

      refine XK.region ?_
      refine xk_move rfl (by decide) ?_
      refine xk_val (v := .slice (some ⟨g1, 0, none⟩) (Lib.nDigits u) 24) (by decide) (fun a w1 hr st => by
        have hx := hr.ev (x := .tmp 5) rfl
        have hy := hr.ev (x := .tmp 22) rfl
        have hc := run_sliceAt_array_h (P := Tryz.prog) w1 155 ⟨g1, 0, none⟩ (by kernel_rfl) .i64 (Lib.nDigits u : Int) (by omega) (by rw [hal]; omega)
        have hsz : (sizeOf (Tryz.prog.elem 155)).run Tryz.prog w1 = .ok 1 w1 := by rw [show Tryz.prog.elem 155 = 5 from by kernel_rfl]; exact Tryz.sizeOf5 w1
        rw [hsz, hal] at hc
        simp [slicedAt, Addr.add] at hc
        simp [execOp, hx, hy, hc]) ?_
      refine xk_bytesStr (Lib.decDigits u) Tryz.underlying74 Tryz.underlying5 Tryz.underlying9 rfl (Lib.decDigits_length u) (fun w1 st j v hv => by
        have hb := st.blk (i := 0) rfl
        rw [Nat.zero_add, hb.cell]
        rw [Lib.byteCells, List.getElem?_map, Option.map_eq_some_iff] at hv
        obtain ⟨b, hb1, rfl⟩ := hv
        simpa using hcs j b hb1) (by decide) ?_
      refine xk_assign rfl (by decide) ?_
      refine XK.nilN ?_
      refine XK.ret ?_
      refine XK.norm ?_
      exact XK.ret1 rfl rfl fun w1 st => ⟨rfl, st.below (by simp)⟩

theorem fmtU64_ok (u : Nat) (hu64 : u < 18446744073709551616) (w : World) (htab : PowTab w) :
    Calls Tryz.prog 94 #[.int .u64 (u : Int), .int .i64 10] w (Rt (.string (strOf (Lib.decDigits u))) w) := by
  refine XK.enter (vs := [.int .u64 (u : Int), .int .i64 10]) Tryz.func94 rfl Tryz.ntmps94 (by simp) ?_
  refine XK.seq ?_

  refine XK.region ?_
  refine xk_assign rfl (by decide) ?_
  refine XK.nilN ?_
  refine XK.seq ?_

  refine XK.region ?_
  refine xk_move rfl (by decide) ?_
  refine xk_move rfl (by decide) ?_
  refine xk_callR (f := 129) (fi := []) (ca := []) (by kernel_rfl) rfl rfl (by decide) (fun w1 st => fmtU_ok u hu64 w1 (PowTab.go htab (st.below (by simp)))) ?_
  refine xk_assign rfl (by decide) ?_
  refine XK.nilN ?_
  refine XK.ret ?_
  refine XK.norm ?_
  exact XK.ret1 rfl rfl fun w1 st => ⟨rfl, st.below (by simp)⟩

end Go.Proofs.YtgopaoidgcgalaaGreatDoor
/- Texts as rows of items: what a right line says, and how it is written. -/
namespace Go.Proofs.YtgopaoidgcgalaaGreatDoor
set_option linter.all false
open Go.RowKit
/-! ### words to lines and back -/
def joinW : List (List UInt8) → List UInt8
  | [] => []
  | [w] => w
  | w :: x :: ws => w ++ 32 :: joinW (x :: ws)
/-- lines to a text and back -/
def unlines (ls : List (List UInt8)) : List UInt8 := ls.flatMap fun l => l ++ [10]
/-! ### items -/
inductive Item where
  | clk (c : Clk)
  | dom (d : Dom)
  | res (r : Int)
  | dev (d : Dev)
  | reg (r : Rg)
/-! ### how an item is written -/
def kwC : List UInt8 := [99, 108, 111, 99, 107]
def kwD : List UInt8 := [100, 111, 109, 97, 105, 110]
def kwR : List UInt8 := [114, 101, 115, 101, 116]
def kwV : List UInt8 := [100, 101, 118, 105, 99, 101]
def kwG : List UInt8 := [114, 101, 103]
def numW (n : Int) : List UInt8 := Lib.itoa n
def keptW (b : Bool) : List UInt8 := if b then [107, 101, 101, 112] else [108, 111, 115, 101]
def aboveW (n : Int) : List UInt8 := if n = -1 then [45] else numW n
/-- the numbers behind a clock's kind -/
def Clk.nums (c : Clk) : List Int := c.src ++ (if c.kind = 111 then [c.rate] else if c.kind = 112 then [c.mul, c.div, c.lock] else if c.kind = 100 then [c.div] else [])
def clkW (c : Clk) : List (List UInt8) := kwC :: [UInt8.ofNat c.kind.toNat] :: c.nums.map numW
def domW (d : Dom) : List (List UInt8) := [kwD, aboveW d.above, numW d.delay, keptW d.ret]
def resW (r : Int) : List (List UInt8) := [kwR, numW r]
def devW (d : Dev) : List (List UInt8) := kwV :: numW d.clock :: numW d.domain :: numW d.reset :: numW d.clamp :: d.needs.map numW
def rgW (r : Rg) : List (List UInt8) := [kwG, numW r.reset, keptW r.kept]
def Item.words : Item → List (List UInt8)
  | .clk c => clkW c
  | .dom d => domW d
  | .res r => resW r
  | .dev d => devW d
  | .reg r => rgW r
/-- a number that has a word -/
def isNum (n : Int) : Prop := 0 ≤ n ∧ n < 1000000000000000
def Clk.can (c : Clk) : Prop := c.nums ≠ [] ∧ (∀ n ∈ c.nums, isNum n) ∧ 0 ≤ c.kind ∧ c.kind < 256 ∧ clockN c.kind.toNat (some c.nums) = some c
def Dom.can (d : Dom) : Prop := (d.above = -1 ∨ isNum d.above) ∧ isNum d.delay
def Dev.can (d : Dev) : Prop := isNum d.clock ∧ isNum d.domain ∧ isNum d.reset ∧ 0 ≤ d.clamp ∧ d.clamp ≤ 4294967295 ∧ ∀ n ∈ d.needs, isNum n
def Rg.can (r : Rg) : Prop := 0 ≤ r.reset ∧ r.reset ≤ 4294967295
/-- an item that a line can say -/
def Item.can : Item → Prop
  | .clk c => c.can
  | .dom d => d.can
  | .res r => isNum r
  | .dev d => d.can ∧ d.regs = []
  | .reg r => r.can
/-! ### their words are words -/
def Item.line (i : Item) : List UInt8 := joinW i.words
/-! ### rows of items -/
def itemsT (is : List Item) : List UInt8 := unlines (is.map Item.line)
/-! ### a description's items -/
def Dev.bare (d : Dev) : Dev := ⟨d.clock, d.domain, d.reset, d.clamp, [], d.needs⟩
def Dev.items (d : Dev) : List Item := .dev d.bare :: d.regs.map .reg
def Soc.items (s : Soc) : List Item := s.clocks.map .clk ++ (s.domains.map .dom ++ (s.resets.map .res ++ s.devs.flatMap Dev.items))
def printF (s : Soc) : List UInt8 := itemsT s.items
/-- a description that a text can say -/
structure Soc.can (s : Soc) : Prop where
  clocks : ∀ c ∈ s.clocks, c.can
  domains : ∀ d ∈ s.domains, d.can
  resets : ∀ r ∈ s.resets, isNum r
  devs : ∀ d ∈ s.devs, d.can ∧ ∀ r ∈ d.regs, r.can
theorem Soc.can.items {s : Soc} (h : s.can) : ∀ i ∈ s.items, i.can := by
  intro i hi
  simp only [Soc.items, List.mem_append, List.mem_map, List.mem_flatMap] at hi
  rcases hi with ⟨c, hc, rfl⟩ | ⟨c, hc, rfl⟩ | ⟨c, hc, rfl⟩ | ⟨d, hd, hi⟩
  · exact h.clocks c hc
  · exact h.domains c hc
  · exact h.resets c hc
  · rw [Dev.items] at hi
    rcases List.mem_cons.1 hi with rfl | hi
    · obtain ⟨h1, h2, h3, h4, h5, h6⟩ := (h.devs d hd).1
      exact ⟨⟨h1, h2, h3, h4, h5, h6⟩, rfl⟩
    · rw [List.mem_map] at hi
      obtain ⟨r, hr, rfl⟩ := hi
      exact (h.devs d hd).2 r hr
/-! ### how long a text is -/
def itemL (i : Item) : Nat := i.line.length + 1
def itemsL (is : List Item) : Nat := (is.map itemL).sum
theorem itemsT_cons (i : Item) (is : List Item) : itemsT (i :: is) = i.line ++ 10 :: itemsT is := by simp [itemsT, unlines]
theorem itemsT_app (is js : List Item) : itemsT (is ++ js) = itemsT is ++ itemsT js := by simp [itemsT, unlines]
theorem itemsT_len : ∀ is : List Item, (itemsT is).length = itemsL is
  | [] => rfl
  | i :: is => by
    rw [itemsT_cons, List.length_append, List.length_cons, itemsT_len is]
    simp only [itemsL, List.map_cons, List.sum_cons, itemL]
    omega
theorem itemsL_app (is js : List Item) : itemsL (is ++ js) = itemsL is + itemsL js := by simp [itemsL]
theorem itemsL_cons (i : Item) (is : List Item) : itemsL (i :: is) = itemL i + itemsL is := by simp [itemsL]
def devsL (l : List Dev) : Nat := itemsL (l.flatMap Dev.items)
theorem devsL_app (l k : List Dev) : devsL (l ++ k) = devsL l + devsL k := by simp [devsL, itemsL_app]
def socL (s : Soc) : Nat := itemsL s.items
theorem socL_eq (s : Soc) : socL s = itemsL (s.clocks.map .clk) + (itemsL (s.domains.map .dom) + (itemsL (s.resets.map .res) + devsL s.devs)) := by
  simp only [socL, Soc.items, itemsL_app, devsL]
end Go.Proofs.YtgopaoidgcgalaaGreatDoor
/- package lines: words that are written. -/
namespace Go.Proofs.YtgopaoidgcgalaaGreatDoor
set_option linter.all false
open Go.RowKit
theorem SlS.ofB {w : World} {B n : Nat} {A : Option Addr} {xs : List Value} (h : Sl w B 1 A n xs) : SlS (all w) 1 A n xs := ⟨h.1, fun hn => by
  obtain ⟨b, off, hA, _, hc⟩ := h.2 hn
  refine ⟨b, off, hA, ?_, hc⟩
  have hx := h.1
  have h0 := hc 0 (xs[0]'(by omega)) (List.getElem?_eq_getElem _)
  show b < w.heap.size
  rcases Nat.lt_or_ge b w.heap.size with h | h
  · exact h
  · simp [World.cell?, Array.getElem?_eq_none h] at h0⟩
/-- numbers as words -/
def wrdS (l : List Int) : List ByteArray := l.map fun n => strOf (numW n)
theorem wrdS_len (l : List Int) : (wrdS l).length = l.length := by simp [wrdS]
def isI64 (n : Int) : Prop := -9223372036854775808 ≤ n ∧ n ≤ 9223372036854775807
theorem itoa_ok (n : Int) (h : isI64 n) (w : World) (htab : PowTab w) : Calls Tryz.prog 34 #[.int .i64 n] w (Rt (.string (strOf (numW n))) w) :=
  (Tryz.strconv_Itoa n h.1 h.2 w htab).mono fun y w' hy => by
    obtain ⟨h1, k, os, rfl⟩ := hy
    exact ⟨h1, Lib.below_grow w.heap.size w (Nat.le_refl _) k os⟩
theorem numW_nat (n : Nat) : numW (n : Int) = Lib.decDigits n := by
  unfold numW Lib.itoa
  rw [if_neg (by omega), Int.toNat_natCast]

theorem kept_ok (b : Bool) (w : World) :
    Calls Tryz.prog 35 #[.bool b] w (Rt (.string (strOf (keptW b))) w) := by
  refine XK.enter (vs := [.bool b]) Tryz.func35 rfl Tryz.ntmps35 (by simp) ?_
  refine XK.seq ?_

  refine XK.region ?_
  refine xk_assign rfl (by decide) ?_
  refine XK.nilN ?_
  refine XK.seq ?_
  refine XK.seq ?_

  refine XK.region ?_
  refine xk_move rfl (by decide) ?_
  refine XK.nilN ?_
  refine XK.cond rfl (fun h => ?_) (fun h => ?_)
  ·
    refine XK.seq ?_

    refine XK.region ?_
    refine xk_assign rfl (by decide) ?_
    refine XK.nilN ?_
    refine XK.ret ?_
    refine XK.norm ?_
    exact XK.ret1 rfl rfl fun w1 st => ⟨by subst h; rfl, st.below (by simp)⟩
  ·
    refine XK.skip ?_
    refine XK.norm ?_
    refine XK.seq ?_

    refine XK.region ?_
    refine xk_assign rfl (by decide) ?_
    refine XK.nilN ?_
    refine XK.ret ?_
    refine XK.norm ?_
    exact XK.ret1 rfl rfl fun w1 st => ⟨by subst h; rfl, st.below (by simp)⟩

theorem word32_ok (n : Int) (hn : 0 ≤ n ∧ n ≤ 4294967295) (w : World) (htab : PowTab w) :
    Calls Tryz.prog 37 #[.int .u32 n] w (Rt (.string (strOf (numW n))) w) := by
  refine XK.enter (vs := [.int .u32 n]) Tryz.func37 rfl Tryz.ntmps37 (by simp) ?_
  refine XK.seq ?_

  refine XK.region ?_
  refine xk_assign rfl (by decide) ?_
  refine XK.nilN ?_
  refine XK.seq ?_

  refine XK.region ?_
  refine xk_move rfl (by decide) ?_
  refine xk_conv (ds := .int .u32) (by kernel_rfl) (by kernel_rfl) rfl (wrap_u64 (by omega)) (by decide) ?_
  obtain ⟨k, rfl⟩ : ∃ k : Nat, n = (k : Int) := ⟨n.toNat, by omega⟩
  refine xk_callR (f := 94) (fi := []) (ca := []) (by kernel_rfl) rfl rfl (by decide) (fun w1 st => fmtU64_ok k (by omega) w1 (PowTab.go htab (st.below (by simp)))) ?_
  refine xk_assign rfl (by decide) ?_
  refine XK.nilN ?_
  refine XK.ret ?_
  refine XK.norm ?_
  exact XK.ret1 rfl rfl fun w1 st => ⟨by rw [numW_nat], st.below (by simp)⟩

/-- words of its own -/
def WrdOk (ws : List ByteArray) (v : Value) (w w' : World) : Prop := ∃ A c, v = .slice A ws.length c ∧ ws.length ≤ c ∧ SlS (fresh w w') 1 A ws.length (strCells ws)
theorem own_cap {el : TypeId} {sz n c : Nat} {A : Option Addr} {xs : List Value} {F : Nat → Prop} {w : World} (h : (HP.own el sz (.slice A n c) n xs).sat F w) : n ≤ c := by
  rcases h.2.2 with ⟨h1, h2⟩ | ⟨g, cap, cur, h1, _, _, h2, _⟩
  · omega
  · cases h1; exact h2
theorem strCells_one (l : List ByteArray) (s : ByteArray) : strCells l ++ [.string s] = strCells (l ++ [s]) := by simp [strCells]
theorem strCells_app (l k : List ByteArray) : strCells l ++ strCells k = strCells (l ++ k) := by simp [strCells]
theorem strCells_cell (l : List ByteArray) : ∀ u ∈ strCells l, u.oneCell' = true := by
  intro u hu
  rw [strCells, List.mem_map] at hu
  obtain ⟨s, _, rfl⟩ := hu
  rfl
theorem ints_ok (l : List Int) (A : Option Addr) (n c : Nat) (w : World) (hS : SlS (all w) 1 A n (intCells l)) (hn : l.length = n) (hn63 : n ≤ 1000000) (hl : ∀ x ∈ l, isI64 x) (htab : PowTab w) :
    Calls Tryz.prog 36 #[.slice A n c] w (fun y w' => (∃ v, y = .returned v ∧ WrdOk (wrdS l) v w w') ∧ Below w.heap.size w w') := by
  refine XK.enter (vs := [.slice A n c]) Tryz.func36 rfl Tryz.ntmps36 (by simp) ?_
  refine XK.seq ?_

  refine XK.region ?_
  refine xk_assign rfl (by decide) ?_
  refine XK.nilN ?_
  refine XK.seq ?_

  refine XK.region ?_
  refine xk_assign rfl (by decide) ?_
  refine XK.nilN ?_
  refine XK.seq ?_
  refine XK.seq ?_
  refine XK.nilrow 9 1 ?_

  refine XK.region ?_
  refine xk_move rfl (by decide) ?_
  refine xk_len (el := 3) (by kernel_rfl) rfl (by decide) ?_
  refine xk_move rfl (by decide) ?_
  refine XK.nilN ?_
  refine XK.envS [(8, .int .i64 0), (7, .int .i64 (n : Int)), (6, .slice A n c), (3, .slice none 0 0), (2, .slice none 0 0)] ?_
  refine XK.block ?_
  refine XK.loop (fun m e R H => ∃ (k : Nat) (A1 : Option Addr) (c1 : Nat), k ≤ n ∧ m = n - k ∧ e = [(8, .int .i64 (k : Int)), (7, .int .i64 (n : Int)), (6, .slice A n c), (3, .slice A1 k c1), (2, .slice none 0 0)] ∧ R = [all w] ∧ H = [HP.own 9 1 (.slice A1 k c1) k (strCells (wrdS (l.take k)))]) n ⟨0, none, 0, by omega, by omega, rfl, rfl, rfl⟩ fun m e R H hI => ?_
  obtain ⟨k, A1, c1, hkn, rfl, rfl, rfl, rfl⟩ := hI
  refine XK.seq ?_

  refine XK.region ?_
  refine xk_lss rfl rfl (by decide) ?_
  refine XK.nilN ?_
  refine XK.seq ?_
  refine XK.if_ rfl (fun hlt => ?_) (fun hlt => ?_)
  ·
    refine XK.skip ?_
    refine XK.norm ?_
    refine XK.seq ?_
    refine XK.block ?_
    refine XK.seq ?_
    have hks : k < n := by omega
    obtain ⟨b, off, rfl, hz, hc⟩ := hS.2 (by omega)
    obtain ⟨x, hx⟩ : ∃ x, l[k]? = some x := ⟨_, List.getElem?_eq_getElem (by omega)⟩
    have hxx := hl x (List.mem_of_getElem? hx)
    have htk : l.take (k + 1) = l.take k ++ [x] := by rw [List.take_add_one, hx]; rfl

    refine XK.region ?_
    refine xk_at (k) (off + k) (el := 3) (sz := 1) (by kernel_rfl) (by kernel_rfl) rfl rfl (by omega) (by omega) (by omega) (by decide) ?_
    refine xk_load (by kernel_rfl) rfl (Rd.ro (p := all w) (by simp) hz (hc k _ (by rw [intCells, List.getElem?_map, hx]; rfl))) (by decide) ?_
    refine xk_assign rfl (by decide) ?_
    refine XK.nilN ?_

    refine XK.region ?_
    refine xk_move rfl (by decide) ?_
    refine xk_move rfl (by decide) ?_
    refine xk_callR (f := 34) (fi := []) (ca := []) (by kernel_rfl) rfl rfl (by decide) (fun w1 st => itoa_ok x hxx w1 (PowTab.go htab (st.below (by simp)))) ?_
    refine xk_slice (el := 9) (sz := 1) (zs := [.string ⟨#[]⟩]) (by kernel_rfl) (zeroB_of (by kernel_rfl)) (by kernel_rfl) rfl (by decide) (by decide) rfl (by simp [fillL, setN, Value.cells, List.range_succ, List.set]; rfl) (by decide) fun g1 => ?_
    refine xk_appendT 1 1 16 1 (n' := k + 1) (el := 9) (by kernel_rfl) (by kernel_rfl) (by decide) rfl rfl rfl (sl_blk 0 rfl rfl) (by simp [Value.oneCell']) rfl (by omega) (by omega) (by decide) fun A2 c2 => ?_
    dsimp only [List.set]
    rw [strCells_one]
    refine xk_assign rfl (by decide) ?_
    refine XK.nilN ?_

    refine XK.region ?_
    refine xk_add rfl rfl (wrap_in (by omega)) (by decide) ?_
    refine xk_move rfl (by decide) ?_
    refine XK.nilN ?_
    exact XK.weak [1] rfl (by decide) (by simp) (XK.envS [(8, .int .i64 ((k + 1 : Nat) : Int)), (7, .int .i64 (n : Int)), (6, .slice (some ⟨b, off, none⟩) n c), (3, .slice A2 (k + 1) c2), (2, .slice none 0 0)] (XK.round _ (by omega) ⟨k + 1, A2, c2, by omega, rfl, rfl, rfl, by rw [htk]; simp [wrdS]⟩))
  ·
    refine XK.exit ?_
    refine XK.norm ?_
    refine XK.seq ?_

    refine XK.region ?_
    refine xk_move rfl (by decide) ?_
    refine xk_assign rfl (by decide) ?_
    refine XK.nilN ?_
    refine XK.ret ?_
    refine XK.norm ?_
    have hkn : k = n := by omega
    subst hkn
    have hal : l.take k = l := List.take_of_length_le (by omega)
    rw [hal]
    refine XK.still [] [0] [] (by simp) rfl (by decide) (by decide) fun q hq _ hfr => ?_
    exact XK.ret1 rfl rfl fun w1 st => ⟨⟨_, rfl, A1, c1, by rw [wrdS_len, hn], by rw [wrdS_len, hn]; obtain ⟨F, hF, _⟩ := hq 0 _ (by simp) rfl; exact own_cap hF, by
      have h := SlS.own (hq 0 _ (by simp) rfl)
      rw [wrdS_len, hn]
      exact SlS.le h (st.fresh_le (by simp) (hfr (by simp) (by simp)))⟩, st.below (by simp)⟩

theorem join_joinW : ∀ ws : List (List UInt8), Lib.join ws [32] = joinW ws
  | [] => rfl
  | [w] => by rw [Lib.join_one]; rfl
  | w :: x :: ws => by
    have ih := join_joinW (x :: ws)
    rw [joinW, ← ih]
    simp [Lib.join, List.intercalate, List.intersperse]
theorem dat_strOf (ws : List (List UInt8)) : (ws.map strOf).map (fun s : ByteArray => s.data.toList) = ws := by
  rw [List.map_map]; conv => rhs; rw [← List.map_id ws]
  apply List.map_congr_left; intro x _; simp [strOf]
theorem join_ok (ws : List (List UInt8)) (A : Option Addr) (n c : Nat) (w : World) (hS : SlS (all w) 1 A n (strCells (ws.map strOf))) (hn : ws.length = n) (h0 : 0 < n) (hc : n ≤ c) (hn63 : n ≤ 100000000) (hlen : (joinW ws).length ≤ 140737488355328) :
    Calls Tryz.prog 92 #[.slice A n c, .string ⟨#[32]⟩] w (Rt (.string (strOf (joinW ws))) w) := by
  obtain ⟨bk, o, rfl, hz, hcc⟩ := hS.2 h0
  have hjn := Tryz.strings_Join bk o c (ws.map strOf) ⟨#[32]⟩ w (fun j x hx => hcc j _ (strCells_at hx)) hz (by rw [List.length_map]; omega) (by rw [List.length_map]; omega) (by rw [dat_strOf, show (ByteArray.mk #[32]).data.toList = [32] from rfl, join_joinW]; exact hlen)
  rw [dat_strOf, show (ByteArray.mk #[32]).data.toList = [32] from rfl, join_joinW, List.length_map, hn] at hjn
  exact hjn
theorem line_ok (b : Nat) (l : List UInt8) (ws : List (List UInt8)) (A : Option Addr) (n c : Nat) (w : World) (F : Nat → Prop) (hp : (HP.bldr b l).sat F w) (hF : ∀ b, F b → b < w.heap.size) (hS : SlS ⟨w, fun b => b < w.heap.size ∧ ¬ F b⟩ 1 A n (strCells (ws.map strOf))) (hn : ws.length = n) (h0 : 0 < n) (hc : n ≤ c) (hn63 : n ≤ 100000000) (hlen : l.length + (joinW ws).length + 1 ≤ 140737488355328) :
    Calls Tryz.prog 32 #[.pointer (some ⟨b, 0, none⟩), .slice A n c] w (fun y w' => y = .returned (.tuple #[]) ∧ ∃ F', (HP.bldr b (l ++ (joinW ws ++ [10]))).sat F' w' ∧ Turns w w' F F') := by
  refine XK.enterM (p := HP.bldr b l) (F := F) (vs := [.pointer (some ⟨b, 0, none⟩), .slice A n c]) Tryz.func32 rfl Tryz.ntmps32 (by simp) hp hF ?_
  obtain ⟨p0, hp0⟩ : ∃ p0, p0 = (⟨w, fun b => b < w.heap.size ∧ ¬ F b⟩ : Piece) := ⟨_, rfl⟩
  rw [← hp0] at hS ⊢
  refine XK.seq ?_

  refine XK.region ?_
  refine xk_move rfl (by decide) ?_
  refine xk_move rfl (by decide) ?_
  refine xk_callR (f := 92) (fi := []) (ca := []) (by kernel_rfl) rfl rfl (by decide) (fun w1 st => join_ok ws A n c w1 (hS.le (st.le (by simp))) hn h0 hc hn63 (by omega)) ?_
  refine xk_callE 0 (f := 91) (fi := []) (ca := []) (HP.bldr b (l ++ (strOf (joinW ws)).data.toList)) (by kernel_rfl) rfl rfl rfl ⟨by decide, rfl⟩ (fun w1 F1 st hs hl hq => wstr_ok b l _ (by rw [strOf_size]; omega) w1 F1 hs hl) ?_
  dsimp only [List.set]
  rw [show (strOf (joinW ws)).data.toList = joinW ws from by simp [strOf]]
  refine XK.nilN ?_

  refine XK.region ?_
  refine xk_move rfl (by decide) ?_
  refine xk_callE 0 (f := 93) (fi := []) (ca := []) (HP.bldr b (l ++ joinW ws ++ [10])) (by kernel_rfl) rfl rfl rfl ⟨by decide, rfl⟩ (fun w1 F1 st hs hl hq => wbyte_ok b _ (by rw [List.length_append]; omega) w1 F1 hs hl) ?_
  dsimp only [List.set]
  refine XK.nilN ?_
  exact XK.ret0 (.inr rfl) rfl fun w1 st => ⟨rfl, by
    have h := st.turns hF (by simp [hp0]) (i := 0) rfl
    rwa [List.append_assoc] at h⟩

theorem wrdS_app (l k : List Int) : wrdS (l ++ k) = wrdS l ++ wrdS k := by simp [wrdS]
theorem clkW_map (c : Clk) : (clkW c).map strOf = strOf kwC :: strOf [UInt8.ofNat c.kind.toNat] :: wrdS c.nums := by simp [clkW, wrdS]
theorem clockWords_ok (c : Clk) (As : Option Addr) (ns ks : Nat) (w : World) (hS : SlS (all w) 1 As ns (intCells c.src)) (hn : c.src.length = ns) (hns : ns ≤ 1000000) (hsrc : ∀ x ∈ c.src, isI64 x) (hk : 0 ≤ c.kind ∧ c.kind < 256) (hr : 0 ≤ c.rate ∧ c.rate < 18446744073709551616) (hm : isI64 c.mul) (hd : isI64 c.div) (hl : isI64 c.lock) (htab : PowTab w) :
    Calls Tryz.prog 33 #[.agg #[.int .u8 c.kind, .slice As ns ks, .int .u64 c.rate, .int .i64 c.mul, .int .i64 c.div, .int .i64 c.lock]] w (fun y w' => (∃ v, y = .returned v ∧ WrdOk ((clkW c).map strOf) v w w') ∧ Below w.heap.size w w') := by
  have hkc : ([Value.int .u8 c.kind] : List Value) = Lib.byteCells [UInt8.ofNat c.kind.toNat] := by
    have : (UInt8.ofNat c.kind.toNat).toNat = c.kind.toNat := by rw [UInt8.toNat_ofNat']; exact Nat.mod_eq_of_lt (by omega)
    simp only [Lib.byteCells, List.map_cons, List.map_nil, this]
    rw [Int.toNat_of_nonneg hk.1]
  refine XK.enter (vs := [.agg #[.int .u8 c.kind, .slice As ns ks, .int .u64 c.rate, .int .i64 c.mul, .int .i64 c.div, .int .i64 c.lock]]) Tryz.func33 rfl Tryz.ntmps33 (by simp) ?_
  refine XK.seq ?_

  refine XK.region ?_
  refine xk_box rfl (by decide) fun g1 => ?_
  refine xk_assign rfl (by decide) ?_
  refine XK.nilN ?_
  refine XK.cut (fun e R H => ∃ A2 c2, e = [(3, .slice A2 (2 + ns) c2), (2, .slice none 0 0), (1, .pointer (some ⟨g1, 0, none⟩))] ∧ R = [all w] ∧ H = [HP.own 9 1 (.slice A2 (2 + ns) c2) (2 + ns) (strCells (strOf kwC :: strOf [UInt8.ofNat c.kind.toNat] :: wrdS c.src)), HP.blk g1 55 [.int .u8 c.kind, .slice As ns ks, .int .u64 c.rate, .int .i64 c.mul, .int .i64 c.div, .int .i64 c.lock]]) ?_ ?_
  ·

    refine XK.draw 8 (by kernel_rfl) (by kernel_rfl) ?_
    refine XA.dA 0 rfl rfl rfl (does_field (off := 0) (by kernel_rfl) rfl) ?_
    refine XA.dA 1 rfl rfl rfl (does_ld rfl) ?_
    refine XA.dA 5 rfl rfl rfl (does_field (off := 1) (by kernel_rfl) rfl) ?_
    refine XA.dA 6 rfl rfl rfl (does_ld rfl) ?_
    refine XA.either 2 7 rfl rfl (by kernel_rfl) ?_ ?_
    · refine xk_slice (el := 5) (sz := 1) (zs := [.int .u8 0]) (by kernel_rfl) (zeroB_of (by kernel_rfl)) (by kernel_rfl) rfl (by decide) (by decide) rfl (by simp [fillL, setN, Value.cells, List.range_succ, List.set]; rfl) (by decide) fun g2 => ?_
      refine XA.bk ?_
      refine XA.either 3 7 rfl rfl (by kernel_rfl) ?_ ?_
      · refine xk_bytesStr [UInt8.ofNat c.kind.toNat] Tryz.underlying74 Tryz.underlying5 Tryz.underlying9 rfl rfl (fun w1 st => by rw [← hkc]; exact RdN.whole 0 rfl w1 st) (by decide) ?_
        refine XA.bk ?_
        refine XA.either 4 7 rfl rfl (by kernel_rfl) ?_ ?_
        · refine xk_slice (el := 9) (sz := 1) (zs := [.string ⟨#[]⟩]) (by kernel_rfl) (zeroB_of (by kernel_rfl)) (by kernel_rfl) rfl (by decide) (by decide) rfl (by simp [fillL, setN, Value.cells, List.range_succ, List.set]; rfl) (by decide) fun g3 => ?_
          refine XA.bk ?_
          refine XA.next 7 rfl (by kernel_rfl) ?_
          refine xk_call (f := 36) (fi := []) (ca := []) [] (by kernel_rfl) rfl rfl (by decide) (by simp) (fun v w w' => WrdOk (wrdS c.src) v w w') (fun w1 st => ints_ok c.src As ns ks w1 (hS.le (st.le (p := all w) (by simp))) hn hns hsrc (PowTab.go htab (st.below (by simp)))) fun v w1 q hv hq _ _ => ?_
          obtain ⟨Ai, ci, rfl, hci, hSi⟩ := hv
          rw [wrdS_len, hn] at hci hSi ⊢
          have hSi := SlS.le hSi hq
          refine XA.bk ?_
          refine XA.next 8 rfl (by kernel_rfl) ?_
          refine XK.asOwn 0 1 2 rfl rfl (by omega) ?_
          dsimp only [List.set]
          refine xk_appendT 0 1 16 ns (n' := 2 + ns) (el := 9) (by kernel_rfl) (by kernel_rfl) (by decide) rfl rfl rfl (sl_ro (p := q) (by simp) hSi) (strCells_cell _) rfl (by omega) (by omega) (by decide) fun A2 c2 => ?_
          dsimp only [List.set]
          refine XA.bt ?_
          refine XA.next 9 rfl (by kernel_rfl) ?_
          refine xk_assign rfl (by decide) ?_
          refine XA.bt ?_
          refine XA.done (by kernel_rfl) ?_
          refine XK.norm ?_
          exact XK.weak [0, 2] rfl (by decide) (by simp) (XK.envS [(3, .slice A2 (2 + ns) c2), (2, .slice none 0 0), (1, .pointer (some ⟨g1, 0, none⟩))] (XK.meet ⟨A2, c2, rfl, rfl, rfl⟩))
        · refine xk_call (f := 36) (fi := []) (ca := []) [] (by kernel_rfl) rfl rfl (by decide) (by simp) (fun v w w' => WrdOk (wrdS c.src) v w w') (fun w1 st => ints_ok c.src As ns ks w1 (hS.le (st.le (p := all w) (by simp))) hn hns hsrc (PowTab.go htab (st.below (by simp)))) fun v w1 q hv hq _ _ => ?_
          obtain ⟨Ai, ci, rfl, hci, hSi⟩ := hv
          rw [wrdS_len, hn] at hci hSi ⊢
          have hSi := SlS.le hSi hq
          refine XA.bk ?_
          refine XA.next 4 rfl (by kernel_rfl) ?_
          refine xk_slice (el := 9) (sz := 1) (zs := [.string ⟨#[]⟩]) (by kernel_rfl) (zeroB_of (by kernel_rfl)) (by kernel_rfl) rfl (by decide) (by decide) rfl (by simp [fillL, setN, Value.cells, List.range_succ, List.set]; rfl) (by decide) fun g3 => ?_
          refine XA.bk ?_
          refine XA.next 8 rfl (by kernel_rfl) ?_
          refine XK.asOwn 0 1 2 rfl rfl (by omega) ?_
          dsimp only [List.set]
          refine xk_appendT 0 1 16 ns (n' := 2 + ns) (el := 9) (by kernel_rfl) (by kernel_rfl) (by decide) rfl rfl rfl (sl_ro (p := q) (by simp) hSi) (strCells_cell _) rfl (by omega) (by omega) (by decide) fun A2 c2 => ?_
          dsimp only [List.set]
          refine XA.bt ?_
          refine XA.next 9 rfl (by kernel_rfl) ?_
          refine xk_assign rfl (by decide) ?_
          refine XA.bt ?_
          refine XA.done (by kernel_rfl) ?_
          refine XK.norm ?_
          exact XK.weak [0, 2] rfl (by decide) (by simp) (XK.envS [(3, .slice A2 (2 + ns) c2), (2, .slice none 0 0), (1, .pointer (some ⟨g1, 0, none⟩))] (XK.meet ⟨A2, c2, rfl, rfl, rfl⟩))
      · refine xk_call (f := 36) (fi := []) (ca := []) [] (by kernel_rfl) rfl rfl (by decide) (by simp) (fun v w w' => WrdOk (wrdS c.src) v w w') (fun w1 st => ints_ok c.src As ns ks w1 (hS.le (st.le (p := all w) (by simp))) hn hns hsrc (PowTab.go htab (st.below (by simp)))) fun v w1 q hv hq _ _ => ?_
        obtain ⟨Ai, ci, rfl, hci, hSi⟩ := hv
        rw [wrdS_len, hn] at hci hSi ⊢
        have hSi := SlS.le hSi hq
        refine XA.bk ?_
        refine XA.next 3 rfl (by kernel_rfl) ?_
        refine xk_bytesStr [UInt8.ofNat c.kind.toNat] Tryz.underlying74 Tryz.underlying5 Tryz.underlying9 rfl rfl (fun w1 st => by rw [← hkc]; exact RdN.whole 0 rfl w1 st) (by decide) ?_
        refine XA.bk ?_
        refine XA.next 4 rfl (by kernel_rfl) ?_
        refine xk_slice (el := 9) (sz := 1) (zs := [.string ⟨#[]⟩]) (by kernel_rfl) (zeroB_of (by kernel_rfl)) (by kernel_rfl) rfl (by decide) (by decide) rfl (by simp [fillL, setN, Value.cells, List.range_succ, List.set]; rfl) (by decide) fun g3 => ?_
        refine XA.bk ?_
        refine XA.next 8 rfl (by kernel_rfl) ?_
        refine XK.asOwn 0 1 2 rfl rfl (by omega) ?_
        dsimp only [List.set]
        refine xk_appendT 0 1 16 ns (n' := 2 + ns) (el := 9) (by kernel_rfl) (by kernel_rfl) (by decide) rfl rfl rfl (sl_ro (p := q) (by simp) hSi) (strCells_cell _) rfl (by omega) (by omega) (by decide) fun A2 c2 => ?_
        dsimp only [List.set]
        refine XA.bt ?_
        refine XA.next 9 rfl (by kernel_rfl) ?_
        refine xk_assign rfl (by decide) ?_
        refine XA.bt ?_
        refine XA.done (by kernel_rfl) ?_
        refine XK.norm ?_
        exact XK.weak [0, 2] rfl (by decide) (by simp) (XK.envS [(3, .slice A2 (2 + ns) c2), (2, .slice none 0 0), (1, .pointer (some ⟨g1, 0, none⟩))] (XK.meet ⟨A2, c2, rfl, rfl, rfl⟩))
    · refine xk_call (f := 36) (fi := []) (ca := []) [] (by kernel_rfl) rfl rfl (by decide) (by simp) (fun v w w' => WrdOk (wrdS c.src) v w w') (fun w1 st => ints_ok c.src As ns ks w1 (hS.le (st.le (p := all w) (by simp))) hn hns hsrc (PowTab.go htab (st.below (by simp)))) fun v w1 q hv hq _ _ => ?_
      obtain ⟨Ai, ci, rfl, hci, hSi⟩ := hv
      rw [wrdS_len, hn] at hci hSi ⊢
      have hSi := SlS.le hSi hq
      refine XA.bk ?_
      refine XA.next 2 rfl (by kernel_rfl) ?_
      refine xk_slice (el := 5) (sz := 1) (zs := [.int .u8 0]) (by kernel_rfl) (zeroB_of (by kernel_rfl)) (by kernel_rfl) rfl (by decide) (by decide) rfl (by simp [fillL, setN, Value.cells, List.range_succ, List.set]; rfl) (by decide) fun g2 => ?_
      refine XA.bk ?_
      refine XA.next 3 rfl (by kernel_rfl) ?_
      refine xk_bytesStr [UInt8.ofNat c.kind.toNat] Tryz.underlying74 Tryz.underlying5 Tryz.underlying9 rfl rfl (fun w1 st => by rw [← hkc]; exact RdN.whole 0 rfl w1 st) (by decide) ?_
      refine XA.bk ?_
      refine XA.next 4 rfl (by kernel_rfl) ?_
      refine xk_slice (el := 9) (sz := 1) (zs := [.string ⟨#[]⟩]) (by kernel_rfl) (zeroB_of (by kernel_rfl)) (by kernel_rfl) rfl (by decide) (by decide) rfl (by simp [fillL, setN, Value.cells, List.range_succ, List.set]; rfl) (by decide) fun g3 => ?_
      refine XA.bk ?_
      refine XA.next 8 rfl (by kernel_rfl) ?_
      refine XK.asOwn 0 1 2 rfl rfl (by omega) ?_
      dsimp only [List.set]
      refine xk_appendT 0 1 16 ns (n' := 2 + ns) (el := 9) (by kernel_rfl) (by kernel_rfl) (by decide) rfl rfl rfl (sl_ro (p := q) (by simp) hSi) (strCells_cell _) rfl (by omega) (by omega) (by decide) fun A2 c2 => ?_
      dsimp only [List.set]
      refine XA.bt ?_
      refine XA.next 9 rfl (by kernel_rfl) ?_
      refine xk_assign rfl (by decide) ?_
      refine XA.bt ?_
      refine XA.done (by kernel_rfl) ?_
      refine XK.norm ?_
      exact XK.weak [0, 2] rfl (by decide) (by simp) (XK.envS [(3, .slice A2 (2 + ns) c2), (2, .slice none 0 0), (1, .pointer (some ⟨g1, 0, none⟩))] (XK.meet ⟨A2, c2, rfl, rfl, rfl⟩))
  rintro _ _ _ ⟨A2, c2, rfl, rfl, rfl⟩
  refine XK.seq ?_
  refine XK.seq ?_

  refine XK.region ?_
  refine xk_field (off := 0) (by kernel_rfl) rfl (by decide) ?_
  refine xk_ld rfl ?_
  refine XK.nilN ?_
  refine XK.block ?_
  refine XK.seq ?_

  refine XK.region ?_
  refine xk_eql rfl rfl (by decide) ?_
  refine xk_assign rfl (by decide) ?_
  refine XK.nilN ?_
  refine XK.if_ rfl (fun h1 => ?_) (fun h1 => ?_)
  ·

    refine XK.region ?_
    refine xk_move rfl (by decide) ?_
    refine xk_field (off := 2) (by kernel_rfl) rfl (by decide) ?_
    refine xk_ld rfl ?_
    obtain ⟨rt, hrt⟩ : ∃ rt : Nat, c.rate = (rt : Int) := ⟨c.rate.toNat, by omega⟩
    rw [hrt]
    refine xk_callR (f := 94) (fi := []) (ca := []) (by kernel_rfl) rfl rfl (by decide) (fun w1 st => fmtU64_ok rt (by omega) w1 (PowTab.go htab (st.below (by simp)))) ?_
    rw [← numW_nat rt, ← hrt]
    refine xk_slice (el := 9) (sz := 1) (zs := [.string ⟨#[]⟩]) (by kernel_rfl) (zeroB_of (by kernel_rfl)) (by kernel_rfl) rfl (by decide) (by decide) rfl (by simp [fillL, setN, Value.cells, List.range_succ, List.set]; rfl) (by decide) fun g4 => ?_
    refine xk_appendT 1 1 16 1 (n' := 2 + ns + 1) (el := 9) (by kernel_rfl) (by kernel_rfl) (by decide) rfl rfl rfl (sl_blk 0 rfl rfl) (news := strCells (wrdS [c.rate])) (strCells_cell _) rfl (by omega) (by omega) (by decide) fun A3 c3 => ?_
    dsimp only [List.set]
    rw [strCells_app]
    refine xk_assign rfl (by decide) ?_
    refine XK.nilN ?_
    refine XK.seq ?_

    refine XK.region ?_
    refine xk_move rfl (by decide) ?_
    refine xk_assign rfl (by decide) ?_
    refine XK.nilN ?_
    refine XK.ret ?_
    refine XK.norm ?_
    have hW : (clkW c).map strOf = (strOf kwC :: strOf [UInt8.ofNat c.kind.toNat] :: wrdS c.src) ++ wrdS [c.rate] := by rw [clkW_map]; unfold Clk.nums; rw [if_pos h1]; rw [wrdS_app]; rfl
    have hWl : ((clkW c).map strOf).length = 2 + ns + 1 := by rw [hW]; simp [wrdS_len, hn]; omega
    refine XK.still [] [1] [] (by simp) rfl (by decide) (by decide) fun q' hq' _ hfr' => ?_
    exact XK.ret1 rfl rfl fun w1 st => ⟨⟨_, rfl, A3, c3, by rw [hWl], by rw [hWl]; obtain ⟨F, hF, _⟩ := hq' 1 _ (by simp) rfl; exact own_cap hF, by
      have h := SlS.own (hq' 1 _ (by simp) rfl)
      rw [hWl, hW]
      exact SlS.le h (st.fresh_le (by simp) (hfr' (by simp) (by simp)))⟩, st.below (by simp)⟩
  ·
    refine XK.seq ?_

    refine XK.region ?_
    refine xk_eql rfl rfl (by decide) ?_
    refine xk_assign rfl (by decide) ?_
    refine XK.nilN ?_
    refine XK.if_ rfl (fun h2 => ?_) (fun h2 => ?_)
    ·

      refine XK.region ?_
      refine xk_move rfl (by decide) ?_
      refine xk_field (off := 3) (by kernel_rfl) rfl (by decide) ?_
      refine xk_ld rfl ?_
      refine xk_field (off := 4) (by kernel_rfl) rfl (by decide) ?_
      refine xk_ld rfl ?_
      refine xk_field (off := 5) (by kernel_rfl) rfl (by decide) ?_
      refine xk_ld rfl ?_
      refine xk_slice (el := 3) (sz := 1) (zs := [.int .i64 0]) (by kernel_rfl) (zeroB_of (by kernel_rfl)) (by kernel_rfl) rfl (by decide) (by decide) rfl (by simp [fillL, setN, Value.cells, List.range_succ, List.set]; rfl) (by decide) fun g5 => ?_
      refine xk_call (f := 36) (fi := []) (ca := []) [] (by kernel_rfl) rfl rfl (by decide) (by simp) (fun v w w' => WrdOk (wrdS [c.mul, c.div, c.lock]) v w w') (fun w1 st => ints_ok [c.mul, c.div, c.lock] _ _ _ w1 (by obtain ⟨B, hB⟩ := sl_blk (sz := 1) (m := 3) 0 rfl rfl w1 st; exact SlS.ofB hB) rfl (by omega) (by intro x hx; simp at hx; rcases hx with rfl | rfl | rfl <;> assumption) (PowTab.go htab (st.below (by simp)))) fun v w1 q hv hq _ _ => ?_
      obtain ⟨Ai, ci, rfl, hci, hSi⟩ := hv
      rw [wrdS_len] at hci hSi ⊢
      have hSi := SlS.le hSi hq
      refine xk_appendT 1 1 16 3 (n' := 2 + ns + 3) (el := 9) (by kernel_rfl) (by kernel_rfl) (by decide) rfl rfl rfl (sl_ro (p := q) (by simp) hSi) (strCells_cell _) rfl (by omega) (by omega) (by decide) fun A3 c3 => ?_
      dsimp only [List.set]
      rw [strCells_app]
      refine xk_assign rfl (by decide) ?_
      refine XK.nilN ?_
      refine XK.seq ?_

      refine XK.region ?_
      refine xk_move rfl (by decide) ?_
      refine xk_assign rfl (by decide) ?_
      refine XK.nilN ?_
      refine XK.ret ?_
      refine XK.norm ?_
      have hW : (clkW c).map strOf = (strOf kwC :: strOf [UInt8.ofNat c.kind.toNat] :: wrdS c.src) ++ wrdS [c.mul, c.div, c.lock] := by rw [clkW_map]; unfold Clk.nums; rw [if_neg h1, if_pos h2]; rw [wrdS_app]; rfl
      have hWl : ((clkW c).map strOf).length = 2 + ns + 3 := by rw [hW]; simp [wrdS_len, hn]; omega
      refine XK.still [] [1] [] (by simp) rfl (by decide) (by decide) fun q' hq' _ hfr' => ?_
      exact XK.ret1 rfl rfl fun w1 st => ⟨⟨_, rfl, A3, c3, by rw [hWl], by rw [hWl]; obtain ⟨F, hF, _⟩ := hq' 1 _ (by simp) rfl; exact own_cap hF, by
        have h := SlS.own (hq' 1 _ (by simp) rfl)
        rw [hWl, hW]
        exact SlS.le h (st.fresh_le (by simp) (hfr' (by simp) (by simp)))⟩, st.below (by simp)⟩
    ·
      refine XK.seq ?_

      refine XK.region ?_
      refine xk_eql rfl rfl (by decide) ?_
      refine xk_assign rfl (by decide) ?_
      refine XK.nilN ?_
      refine XK.if_ rfl (fun h3 => ?_) (fun h3 => ?_)
      ·

        refine XK.region ?_
        refine xk_move rfl (by decide) ?_
        refine xk_field (off := 4) (by kernel_rfl) rfl (by decide) ?_
        refine xk_ld rfl ?_
        refine xk_slice (el := 3) (sz := 1) (zs := [.int .i64 0]) (by kernel_rfl) (zeroB_of (by kernel_rfl)) (by kernel_rfl) rfl (by decide) (by decide) rfl (by simp [fillL, setN, Value.cells, List.range_succ, List.set]; rfl) (by decide) fun g6 => ?_
        refine xk_call (f := 36) (fi := []) (ca := []) [] (by kernel_rfl) rfl rfl (by decide) (by simp) (fun v w w' => WrdOk (wrdS [c.div]) v w w') (fun w1 st => ints_ok [c.div] _ _ _ w1 (by obtain ⟨B, hB⟩ := sl_blk (sz := 1) (m := 1) 0 rfl rfl w1 st; exact SlS.ofB hB) rfl (by omega) (by intro x hx; simp at hx; subst hx; assumption) (PowTab.go htab (st.below (by simp)))) fun v w1 q hv hq _ _ => ?_
        obtain ⟨Ai, ci, rfl, hci, hSi⟩ := hv
        rw [wrdS_len] at hci hSi ⊢
        have hSi := SlS.le hSi hq
        refine xk_appendT 1 1 16 1 (n' := 2 + ns + 1) (el := 9) (by kernel_rfl) (by kernel_rfl) (by decide) rfl rfl rfl (sl_ro (p := q) (by simp) hSi) (strCells_cell _) rfl (by omega) (by omega) (by decide) fun A3 c3 => ?_
        dsimp only [List.set]
        rw [strCells_app]
        refine xk_assign rfl (by decide) ?_
        refine XK.nilN ?_
        refine XK.seq ?_

        refine XK.region ?_
        refine xk_move rfl (by decide) ?_
        refine xk_assign rfl (by decide) ?_
        refine XK.nilN ?_
        refine XK.ret ?_
        refine XK.norm ?_
        have hW : (clkW c).map strOf = (strOf kwC :: strOf [UInt8.ofNat c.kind.toNat] :: wrdS c.src) ++ wrdS [c.div] := by rw [clkW_map]; unfold Clk.nums; rw [if_neg h1, if_neg h2, if_pos h3]; rw [wrdS_app]; rfl
        have hWl : ((clkW c).map strOf).length = 2 + ns + 1 := by rw [hW]; simp [wrdS_len, hn]; omega
        refine XK.still [] [1] [] (by simp) rfl (by decide) (by decide) fun q' hq' _ hfr' => ?_
        exact XK.ret1 rfl rfl fun w1 st => ⟨⟨_, rfl, A3, c3, by rw [hWl], by rw [hWl]; obtain ⟨F, hF, _⟩ := hq' 1 _ (by simp) rfl; exact own_cap hF, by
          have h := SlS.own (hq' 1 _ (by simp) rfl)
          rw [hWl, hW]
          exact SlS.le h (st.fresh_le (by simp) (hfr' (by simp) (by simp)))⟩, st.below (by simp)⟩
      ·
        refine XK.skip ?_
        refine XK.norm ?_
        refine XK.seq ?_

        refine XK.region ?_
        refine xk_move rfl (by decide) ?_
        refine xk_assign rfl (by decide) ?_
        refine XK.nilN ?_
        refine XK.ret ?_
        refine XK.norm ?_
        have hW : (clkW c).map strOf = (strOf kwC :: strOf [UInt8.ofNat c.kind.toNat] :: wrdS c.src) := by rw [clkW_map]; unfold Clk.nums; rw [if_neg h1, if_neg h2, if_neg h3]; rw [List.append_nil]
        have hWl : ((clkW c).map strOf).length = 2 + ns := by rw [hW]; simp [wrdS_len, hn]; omega
        refine XK.still [] [0] [] (by simp) rfl (by decide) (by decide) fun q' hq' _ hfr' => ?_
        exact XK.ret1 rfl rfl fun w1 st => ⟨⟨_, rfl, A2, c2, by rw [hWl], by rw [hWl]; obtain ⟨F, hF, _⟩ := hq' 0 _ (by simp) rfl; exact own_cap hF, by
          have h := SlS.own (hq' 0 _ (by simp) rfl)
          rw [hWl, hW]
          exact SlS.le h (st.fresh_le (by simp) (hfr' (by simp) (by simp)))⟩, st.below (by simp)⟩

end Go.Proofs.YtgopaoidgcgalaaGreatDoor
/- package lines: Print. -/
namespace Go.Proofs.YtgopaoidgcgalaaGreatDoor
set_option linter.all false
open Go.RowKit
/-- numbers that have room where they lie -/
structure Soc.in64 (s : Soc) : Prop where
  clocks : ∀ c ∈ s.clocks, (∀ x ∈ c.src, isI64 x) ∧ (0 ≤ c.kind ∧ c.kind < 256) ∧ (0 ≤ c.rate ∧ c.rate < 18446744073709551616) ∧ isI64 c.mul ∧ isI64 c.div ∧ isI64 c.lock
  domains : ∀ d ∈ s.domains, isI64 d.above ∧ isI64 d.delay
  resets : ∀ r ∈ s.resets, isI64 r
  devs : ∀ d ∈ s.devs, isI64 d.clock ∧ isI64 d.domain ∧ isI64 d.reset ∧ (0 ≤ d.clamp ∧ d.clamp ≤ 4294967295) ∧ (∀ x ∈ d.needs, isI64 x) ∧ ∀ r ∈ d.regs, 0 ≤ r.reset ∧ r.reset ≤ 4294967295
theorem itemsT_one (i : Item) : itemsT [i] = joinW i.words ++ [10] := by simp [itemsT, unlines, Item.line]
theorem pre_step {s : Soc} {pre suf : List Item} (i : Item) (h : s.items = pre ++ i :: suf) : (itemsT pre).length + (joinW i.words).length + 1 ≤ (printF s).length := by
  have h2 : printF s = itemsT pre ++ (itemsT [i] ++ itemsT suf) := by rw [printF, h, itemsT_app, show i :: suf = [i] ++ suf from rfl, itemsT_app]
  rw [h2, itemsT_one]
  simp only [List.length_append, List.length_cons, List.length_nil]
  omega
theorem take_cut {α : Type} {l : List α} {k : Nat} {x : α} (h : l[k]? = some x) : l = l.take k ++ x :: l.drop (k + 1) ∧ l.take (k + 1) = l.take k ++ [x] := by
  refine ⟨?_, by rw [List.take_add_one, h]; rfl⟩
  conv => lhs; rw [← List.take_append_drop k l, drop_get h]
def preC (s : Soc) (k : Nat) : List Item := (s.clocks.take k).map .clk
def preD (s : Soc) (k : Nat) : List Item := s.clocks.map .clk ++ (s.domains.take k).map .dom
def preR (s : Soc) (k : Nat) : List Item := s.clocks.map .clk ++ (s.domains.map .dom ++ (s.resets.take k).map .res)
def preV (s : Soc) (k : Nat) : List Item := s.clocks.map .clk ++ (s.domains.map .dom ++ (s.resets.map .res ++ (s.devs.take k).flatMap Dev.items))
def preG (s : Soc) (k : Nat) (d : Dev) (j : Nat) : List Item := preV s k ++ .dev d.bare :: (d.regs.take j).map .reg
theorem preC_next {s : Soc} {k : Nat} {c : Clk} (h : s.clocks[k]? = some c) : preC s (k + 1) = preC s k ++ [.clk c] ∧ ∃ suf, s.items = preC s k ++ .clk c :: suf := by
  obtain ⟨h1, h2⟩ := take_cut h
  refine ⟨by unfold preC; rw [h2]; simp, (s.clocks.drop (k + 1)).map .clk ++ (s.domains.map .dom ++ (s.resets.map .res ++ s.devs.flatMap Dev.items)), ?_⟩
  unfold preC Soc.items
  conv => lhs; rw [h1]
  simp
theorem clkW_len (c : Clk) : 2 ≤ (clkW c).length ∧ (clkW c).length ≤ 5 + c.src.length := by
  unfold clkW Clk.nums
  simp only [List.length_cons, List.length_map, List.length_append]
  split
  · simp; omega
  · split
    · simp; omega
    · split <;> simp <;> omega
theorem preD_next {s : Soc} {k : Nat} {c : Dom} (h : s.domains[k]? = some c) : preD s (k + 1) = preD s k ++ [.dom c] ∧ ∃ suf, s.items = preD s k ++ .dom c :: suf := by
  obtain ⟨h1, h2⟩ := take_cut h
  refine ⟨by unfold preD; rw [h2]; simp, (s.domains.drop (k + 1)).map .dom ++ (s.resets.map .res ++ s.devs.flatMap Dev.items), ?_⟩
  unfold preD Soc.items
  conv => lhs; rw [h1]
  simp
theorem preR_next {s : Soc} {k : Nat} {c : Int} (h : s.resets[k]? = some c) : preR s (k + 1) = preR s k ++ [.res c] ∧ ∃ suf, s.items = preR s k ++ .res c :: suf := by
  obtain ⟨h1, h2⟩ := take_cut h
  refine ⟨by unfold preR; rw [h2]; simp, (s.resets.drop (k + 1)).map .res ++ s.devs.flatMap Dev.items, ?_⟩
  unfold preR Soc.items
  conv => lhs; rw [h1]
  simp
theorem preV_dev {s : Soc} {k : Nat} {d : Dev} (h : s.devs[k]? = some d) : ∃ suf, s.items = preV s k ++ .dev d.bare :: suf := by
  obtain ⟨h1, h2⟩ := take_cut h
  refine ⟨d.regs.map .reg ++ (s.devs.drop (k + 1)).flatMap Dev.items, ?_⟩
  unfold preV Soc.items
  conv => lhs; rw [h1]
  simp [Dev.items]
theorem preG_next {s : Soc} {k j : Nat} {d : Dev} {r : Rg} (h : s.devs[k]? = some d) (hr : d.regs[j]? = some r) : preG s k d (j + 1) = preG s k d j ++ [.reg r] ∧ ∃ suf, s.items = preG s k d j ++ .reg r :: suf := by
  obtain ⟨h1, h2⟩ := take_cut h
  obtain ⟨h3, h4⟩ := take_cut hr
  refine ⟨by unfold preG; rw [h4]; simp, (d.regs.drop (j + 1)).map .reg ++ (s.devs.drop (k + 1)).flatMap Dev.items, ?_⟩
  unfold preG preV Soc.items
  conv => lhs; rw [h1]
  simp only [List.flatMap_append, List.flatMap_cons, Dev.items]
  conv => lhs; rw [h3]
  simp
theorem preV_next {s : Soc} {k : Nat} {d : Dev} (h : s.devs[k]? = some d) : preV s (k + 1) = preG s k d d.regs.length := by
  obtain ⟨h1, h2⟩ := take_cut h
  unfold preG preV
  rw [h2, List.take_of_length_le (Nat.le_refl _)]
  simp [Dev.items]
theorem preC_all (s : Soc) : itemsT (preC s s.clocks.length) = itemsT (preD s 0) := by simp [preC, preD]
theorem preD_all (s : Soc) : itemsT (preD s s.domains.length) = itemsT (preR s 0) := by simp [preD, preR]
theorem preR_all (s : Soc) : itemsT (preR s s.resets.length) = itemsT (preV s 0) := by simp [preR, preV]
theorem preV_all (s : Soc) : itemsT (preV s s.devs.length) = printF s := by simp [preV, printF, Soc.items]

section
variable {P : Program} {N : Frm} {w0 : World} {e : Env} {R : List Piece} {H : List HP} {Q : Exit → Act → World → Prop} {ops : Array Oper} {rest : List Oper}
variable {d : Nat} {ty : TypeId} {pos : String} {aft : Array Edge}
/-- the last call on a builder: behind it just what there was is known -/
theorem xk_bldEnd (i : Nat) {f : FuncId} {x : Operand} {args : List Operand} {fi ca vs : List Value} {tys : Array TypeId} {b : Nat} {l : List UInt8} {v : Value} (hf : callB P f = true) (hx : e.ev x = some (.func (.func f) fi.toArray ca.toArray)) (ha : e.evs args = some vs) (hi : H[i]? = some (HP.bldr b l)) (hd : d < N.n) (hR : all w0 ∈ R)
    (hc : ∀ w, Lib.IsBuilder 76 5 w0.heap.size b (Lib.byteCells l) w ∧ w0.heap.size ≤ w.heap.size → Calls P f (fi ++ vs ++ ca).toArray w fun y w' => y = .returned v ∧ Below w0.heap.size w w')
    (k : XK N w0 (wpList P ops Q rest) ((d, v) :: e) [all w0] []) : XK N w0 (wpList P ops Q (⟨some d, .call { callee := .value x, args := args.toArray, argTypes := tys }, ty, pos, aft, none⟩ :: rest)) e R H := fun a w hr st => wpList_plain rfl fun K hK => by
  unfold callB at hf
  cases hq : P.funcs[f]? with
  | none => simp [hq] at hf
  | some fn =>
    simp [hq] at hf
    obtain ⟨hf1, hf2⟩ := hf
    have hrun : (execOp a.eval (⟨some d, .call { callee := .value x, args := args.toArray, argTypes := tys }, ty, pos, aft, none⟩ : Oper)).run P w = .ok (.enter f (fi ++ vs ++ ca).toArray) w := by
      cases hb : fn.body with
      | none => simp [hb] at hf2
      | some c => simp [execOp, resolve, hr.ev hx, Deferred.ofValue, invoke, callFunc, hq, hf1, hb, hr.evs ha]
    have hbel := st.below hR
    obtain ⟨Z, F, hz, hrr, hs, hff, hdd⟩ := st.ex
    have hge : ∀ x, F i x → w0.heap.size ≤ x := fun x hx => by
      rcases Nat.lt_or_ge x w0.heap.size with h | h
      · exact absurd (hrr _ hR x h).1 (hff i x hx).1
      · exact h
    obtain ⟨⟨⟨pv, A, n, c⟩, hpv, hn⟩, G, h1, h2, h3⟩ := hs i _ hi
    have ho := h1 0 _ rfl
    have hb := h1 1 _ rfl
    dsimp only at hpv hn ho hb
    have hB : Lib.IsBuilder 76 5 w0.heap.size b (Lib.byteCells l) w := by
      have hbl : (Lib.byteCells l).length = n := by rw [Lib.byteCells_length, hn]
      have key : Lib.BuilderAt 76 5 w0.heap.size b pv (Lib.byteCells l) w := by
        refine ⟨hge b (h2 1 b hb.1), .slice A n c, hb.2, ?_, fun he => h3 0 1 b (by omega) (ho.1 b he) hb.1⟩
        rw [hbl]
        refine ⟨ho.2.1, ho.2.2.imp id ?_⟩
        rintro ⟨g, cap, cur, hv, _, hg, hrest⟩
        exact ⟨g, cap, cur, hv, hge g (h2 0 g (ho.1 g (by rw [hv]; rfl))), hg, hrest⟩
      rcases hpv with rfl | rfl
      · exact .inl key
      · exact .inr key
    unfold Oper.wp
    rw [hrun]
    refine (hc w ⟨hB, st.size⟩).mono fun y w' hy => ?_
    obtain ⟨rfl, hb2⟩ := hy
    have hb3 := hbel.trans hb2
    exact hK _ _ (k _ _ (hr.put hd v) ⟨hb3.os, hb3.tape, hb3.output, hb3.size, fun x => x < w0.heap.size, fun _ _ => False, fun x hx => Nat.lt_of_lt_of_le hx hb3.size, fun p hp x hx => by
      simp at hp; subst hp
      exact ⟨hx, hb3.block x hx⟩, fun j p hj => by simp at hj, fun _ _ h => h.elim, fun _ _ _ _ h => h.elim⟩)
end
set_option maxHeartbeats 4000000 in
theorem print_ok (s : Soc) (A1 A2 A3 A4 : Option Addr) (n1 k1 n2 k2 n3 k3 n4 k4 : Nat) (w : World) (hW : SocW w s A1 n1 A2 n2 A3 n3 A4 n4) (h64 : s.in64) (hregs : ∀ d ∈ s.devs, d.regs.length ≤ 1000000) (hbig : checkS s = 0 → (printF s).length ≤ 100000000000) (htab : PowTab w) :
    Calls Tryz.prog 17 #[.agg #[.slice A1 n1 k1, .slice A2 n2 k2, .slice A3 n3 k3, .slice A4 n4 k4]] w (Rt (.tuple #[.string (strOf (if checkS s = 0 then printF s else [])), .int .i64 (if checkS s = 0 then 0 else 1)]) w) := by
  have hn1 := hW.len1
  have hn2 := hW.len2
  have hn3 := hW.len3
  have hn4 := hW.len4
  have hs1 := hW.small.1
  have hs2 := hW.small.2.1
  have hs3 := hW.small.2.2.1
  have hs4 := hW.small.2.2.2.1
  refine XK.enter (vs := [.agg #[.slice A1 n1 k1, .slice A2 n2 k2, .slice A3 n3 k3, .slice A4 n4 k4]]) Tryz.func17 rfl Tryz.ntmps17 (by simp) ?_
  refine XK.seq ?_

  refine XK.region ?_
  refine xk_box rfl (by decide) fun g1 => ?_
  refine xk_assign rfl (by decide) ?_
  refine xk_assign rfl (by decide) ?_
  refine XK.nilN ?_
  refine XK.seq ?_
  refine XK.seq ?_

  refine XK.region ?_
  refine xk_ldN 4 rfl ?_
  refine xk_callR (f := 22) (fi := []) (ca := []) (by kernel_rfl) rfl rfl (by decide) (fun w1 st => checkS_any s A1 A2 A3 A4 n1 k1 n2 k2 n3 k3 n4 k4 w1 (hW.le (st.started (by simp)))) ?_
  refine xk_neq rfl rfl (by decide) ?_
  refine XK.nilN ?_
  refine XK.if_ rfl (fun hbad => ?_) (fun hok => ?_)
  ·
    refine XK.seq ?_

    refine XK.region ?_
    refine xk_assign rfl (by decide) ?_
    refine xk_assign rfl (by decide) ?_
    refine XK.nilN ?_
    refine XK.ret ?_
    refine XK.norm ?_
    exact XK.ret2 rfl rfl rfl fun w1 st => ⟨by rw [if_neg hbad, if_neg hbad]; rfl, st.below (by simp)⟩
  ·
    refine XK.skip ?_
    refine XK.norm ?_
    refine XK.seq ?_

    refine XK.region ?_
    refine xk_alloc (cs := [.pointer none, .slice none 0 0]) (zeroB_of (by kernel_rfl)) (by decide) fun g2 => ?_
    refine XK.nilrow 5 1 ?_
    refine XK.pair ?_
    refine XK.toEx 0 (f := fun x : BlX g2 [] => x.hp) ⟨(.pointer none, none, 0, 0), .inl rfl, rfl⟩ rfl ?_
    dsimp only [List.set]
    have hchk : checkS s = 0 := by omega
    have hbig := hbig hchk
    refine XK.nilN ?_
    refine XK.seq ?_
    refine XK.seq ?_

    refine XK.region ?_
    refine xk_field (off := 0) (by kernel_rfl) rfl (by decide) ?_
    refine xk_ld rfl ?_
    refine xk_len (el := 55) (by kernel_rfl) rfl (by decide) ?_
    refine xk_move rfl (by decide) ?_
    refine XK.nilN ?_
    refine XK.envS [(23, .int .i64 0), (22, .int .i64 (n1 : Int)), (21, .slice A1 n1 k1), (4, .pointer (some ⟨g2, 0, none⟩)), (3, .int .i64 0), (2, .string ⟨#[]⟩), (1, .pointer (some ⟨g1, 0, none⟩))] ?_
    refine XK.block ?_
    refine XK.loop (fun m e R H => ∃ k : Nat, k ≤ n1 ∧ m = n1 - k ∧ e = [(23, .int .i64 (k : Int)), (22, .int .i64 (n1 : Int)), (21, .slice A1 n1 k1), (4, .pointer (some ⟨g2, 0, none⟩)), (3, .int .i64 0), (2, .string ⟨#[]⟩), (1, .pointer (some ⟨g1, 0, none⟩))] ∧ R = [all w] ∧ H = [HP.bldr g2 (itemsT (preC s k)), HP.blk g1 28 [.slice A1 n1 k1, .slice A2 n2 k2, .slice A3 n3 k3, .slice A4 n4 k4]]) n1 ⟨0, by omega, by omega, rfl, rfl, rfl⟩ fun m e R H hI => ?_
    obtain ⟨k, hkn, rfl, rfl, rfl, rfl⟩ := hI
    refine XK.seq ?_

    refine XK.region ?_
    refine xk_lss rfl rfl (by decide) ?_
    refine XK.nilN ?_
    refine XK.seq ?_
    refine XK.if_ rfl (fun hlt => ?_) (fun hlt => ?_)
    ·
      refine XK.skip ?_
      refine XK.norm ?_
      refine XK.seq ?_
      refine XK.block ?_
      refine XK.seq ?_
      have hks : k < n1 := by omega
      obtain ⟨c, hc⟩ : ∃ c, s.clocks[k]? = some c := ⟨_, List.getElem?_eq_getElem (by omega)⟩
      have hcm := List.mem_of_getElem? hc
      obtain ⟨b, off, r, rfl, _, ⟨As, ns, ks, rfl, hns, hSs⟩, hro⟩ := hW.clk.row hc
      obtain ⟨hx1, hx2, hx3, hx4, hx5, hx6⟩ := h64.clocks c hcm
      have hsm := hW.small.2.2.2.2.1 c hcm

      refine XK.region ?_
      refine xk_at (k) (off + k * 6) (el := 55) (sz := 6) (by kernel_rfl) (by kernel_rfl) rfl rfl (by omega) (by omega) (by omega) (by decide) ?_
      refine xk_ldN 6 rfl ?_
      refine xk_alloc (cs := [.int .u8 0, .slice none 0 0, .int .u64 0, .int .i64 0, .int .i64 0, .int .i64 0]) (zeroB_of (by kernel_rfl)) (by decide) fun g3 => ?_
      (first | (refine xk_storeN 0 rfl rfl rfl (by kernel_rfl) (by simp [Value.cells, Value.oneCell']) (by simp [Value.cells]) ?_) | (refine xk_storeN 1 rfl rfl rfl (by kernel_rfl) (by simp [Value.cells, Value.oneCell']) (by simp [Value.cells]) ?_) | (refine xk_storeN 2 rfl rfl rfl (by kernel_rfl) (by simp [Value.cells, Value.oneCell']) (by simp [Value.cells]) ?_) | (refine xk_storeN 3 rfl rfl rfl (by kernel_rfl) (by simp [Value.cells, Value.oneCell']) (by simp [Value.cells]) ?_) | (refine xk_storeN 4 rfl rfl rfl (by kernel_rfl) (by simp [Value.cells, Value.oneCell']) (by simp [Value.cells]) ?_) | (refine xk_storeN 5 rfl rfl rfl (by kernel_rfl) (by simp [Value.cells, Value.oneCell']) (by simp [Value.cells]) ?_) | (refine xk_storeN 6 rfl rfl rfl (by kernel_rfl) (by simp [Value.cells, Value.oneCell']) (by simp [Value.cells]) ?_) | (refine xk_storeN 7 rfl rfl rfl (by kernel_rfl) (by simp [Value.cells, Value.oneCell']) (by simp [Value.cells]) ?_) | (refine xk_storeN 8 rfl rfl rfl (by kernel_rfl) (by simp [Value.cells, Value.oneCell']) (by simp [Value.cells]) ?_)); simp only [putN, Value.cells, List.set, List.take, List.drop, List.nil_append, List.append_nil, List.length_cons, List.length_nil, List.cons_append, Nat.reduceAdd]
      refine XK.nilN ?_

      refine XK.region ?_
      refine xk_ldN 6 rfl ?_
      refine xk_call (f := 33) (fi := []) (ca := []) [] (by kernel_rfl) rfl rfl (by decide) (by simp) (fun v w w' => WrdOk ((clkW c).map strOf) v w w') (fun w1 st => clockWords_ok c As ns ks w1 (SlS.le hSs (st.le (p := all w) (by simp))) hns.symm (by omega) hx1 hx2 hx3 hx4 hx5 hx6 (PowTab.go htab (st.below (by simp)))) fun v w1 q hv hq _ _ => ?_
      obtain ⟨Ai, ci, rfl, hci, hSi⟩ := hv
      rw [List.length_map] at hci hSi ⊢
      have hSi := SlS.le hSi hq
      obtain ⟨hpre, suf, hsuf⟩ := preC_next hc
      have hstep := pre_step (Item.clk c) hsuf
      refine xk_callE 1 (f := 32) (fi := []) (ca := []) (HP.bldr g2 (itemsT (preC s k) ++ (joinW ((Item.clk c)).words ++ [10]))) (by kernel_rfl) rfl rfl rfl ⟨by decide, rfl⟩ (fun w1 F1 st hs hl hq => line_ok g2 _ ((Item.clk c)).words Ai _ ci w1 F1 hs hl (hSi.le (hq _ (by simp))) rfl (by have := (clkW_len c).1; show 0 < (clkW c).length; omega) hci (by have := (clkW_len c).2; show (clkW c).length ≤ _; omega) (by omega)) ?_
      dsimp only [List.set]
      rw [← itemsT_one, ← itemsT_app, ← hpre]
      refine XK.nilN ?_

      refine XK.region ?_
      refine xk_add rfl rfl (wrap_in (by omega)) (by decide) ?_
      refine xk_move rfl (by decide) ?_
      refine XK.nilN ?_
      exact XK.weak [1, 2] rfl (by decide) (by simp) (XK.envS [(23, .int .i64 ((k + 1 : Nat) : Int)), (22, .int .i64 (n1 : Int)), (21, .slice (some ⟨b, off, none⟩) n1 k1), (4, .pointer (some ⟨g2, 0, none⟩)), (3, .int .i64 0), (2, .string ⟨#[]⟩), (1, .pointer (some ⟨g1, 0, none⟩))] (XK.round _ (by omega) ⟨k + 1, by omega, rfl, rfl, rfl, rfl⟩))
    ·
      refine XK.exit ?_
      refine XK.norm ?_
      refine XK.seq ?_
      refine XK.seq ?_
      have hke : k = s.clocks.length := by omega
      subst hke
      rw [preC_all]

      refine XK.region ?_
      refine xk_field (off := 1) (by kernel_rfl) rfl (by decide) ?_
      refine xk_ld rfl ?_
      refine xk_len (el := 69) (by kernel_rfl) rfl (by decide) ?_
      refine xk_move rfl (by decide) ?_
      refine XK.nilN ?_
      refine XK.envS [(34, .int .i64 0), (33, .int .i64 (n2 : Int)), (32, .slice A2 n2 k2), (4, .pointer (some ⟨g2, 0, none⟩)), (3, .int .i64 0), (2, .string ⟨#[]⟩), (1, .pointer (some ⟨g1, 0, none⟩))] ?_
      refine XK.block ?_
      refine XK.loop (fun m e R H => ∃ k : Nat, k ≤ n2 ∧ m = n2 - k ∧ e = [(34, .int .i64 (k : Int)), (33, .int .i64 (n2 : Int)), (32, .slice A2 n2 k2), (4, .pointer (some ⟨g2, 0, none⟩)), (3, .int .i64 0), (2, .string ⟨#[]⟩), (1, .pointer (some ⟨g1, 0, none⟩))] ∧ R = [all w] ∧ H = [HP.bldr g2 (itemsT (preD s k)), HP.blk g1 28 [.slice A1 n1 k1, .slice A2 n2 k2, .slice A3 n3 k3, .slice A4 n4 k4]]) n2 ⟨0, by omega, by omega, rfl, rfl, rfl⟩ fun m e R H hI => ?_
      obtain ⟨k, hkn, rfl, rfl, rfl, rfl⟩ := hI
      refine XK.seq ?_

      refine XK.region ?_
      refine xk_lss rfl rfl (by decide) ?_
      refine XK.nilN ?_
      refine XK.seq ?_
      refine XK.if_ rfl (fun hlt => ?_) (fun hlt => ?_)
      ·
        refine XK.skip ?_
        refine XK.norm ?_
        refine XK.seq ?_
        refine XK.block ?_
        refine XK.seq ?_
        have hks : k < n2 := by omega
        obtain ⟨c, hc⟩ : ∃ c, s.domains[k]? = some c := ⟨_, List.getElem?_eq_getElem (by omega)⟩
        have hcm := List.mem_of_getElem? hc
        obtain ⟨b, off, r, rfl, _, rfl, hro⟩ := hW.dom.row hc
        obtain ⟨hx1, hx2⟩ := h64.domains c hcm

        refine XK.region ?_
        refine xk_at (k) (off + k * 3) (el := 69) (sz := 3) (by kernel_rfl) (by kernel_rfl) rfl rfl (by omega) (by omega) (by omega) (by decide) ?_
        refine xk_ldN 3 rfl ?_
        refine xk_alloc (cs := [.int .i64 0, .int .i64 0, .bool false]) (zeroB_of (by kernel_rfl)) (by decide) fun g4 => ?_
        (first | (refine xk_storeN 0 rfl rfl rfl (by kernel_rfl) (by simp [Value.cells, Value.oneCell']) (by simp [Value.cells]) ?_) | (refine xk_storeN 1 rfl rfl rfl (by kernel_rfl) (by simp [Value.cells, Value.oneCell']) (by simp [Value.cells]) ?_) | (refine xk_storeN 2 rfl rfl rfl (by kernel_rfl) (by simp [Value.cells, Value.oneCell']) (by simp [Value.cells]) ?_) | (refine xk_storeN 3 rfl rfl rfl (by kernel_rfl) (by simp [Value.cells, Value.oneCell']) (by simp [Value.cells]) ?_) | (refine xk_storeN 4 rfl rfl rfl (by kernel_rfl) (by simp [Value.cells, Value.oneCell']) (by simp [Value.cells]) ?_) | (refine xk_storeN 5 rfl rfl rfl (by kernel_rfl) (by simp [Value.cells, Value.oneCell']) (by simp [Value.cells]) ?_) | (refine xk_storeN 6 rfl rfl rfl (by kernel_rfl) (by simp [Value.cells, Value.oneCell']) (by simp [Value.cells]) ?_) | (refine xk_storeN 7 rfl rfl rfl (by kernel_rfl) (by simp [Value.cells, Value.oneCell']) (by simp [Value.cells]) ?_) | (refine xk_storeN 8 rfl rfl rfl (by kernel_rfl) (by simp [Value.cells, Value.oneCell']) (by simp [Value.cells]) ?_)); simp only [putN, Value.cells, List.set, List.take, List.drop, List.nil_append, List.append_nil, List.length_cons, List.length_nil, List.cons_append, Nat.reduceAdd]
        refine XK.nilN ?_
        refine XK.seq ?_

        refine XK.region ?_
        refine xk_assign rfl (by decide) ?_
        refine XK.nilN ?_
        refine XK.cut (fun e R H => e = [(9, .string (strOf (aboveW c.above))), (8, .pointer (some ⟨g4, 0, none⟩)), (34, .int .i64 (k : Int)), (33, .int .i64 (n2 : Int)), (32, .slice (some ⟨b, off, none⟩) n2 k2), (4, .pointer (some ⟨g2, 0, none⟩)), (3, .int .i64 0), (2, .string ⟨#[]⟩), (1, .pointer (some ⟨g1, 0, none⟩))] ∧ R = [all w] ∧ H = [HP.blk g4 69 [.int .i64 c.above, .int .i64 c.delay, .bool c.ret], HP.bldr g2 (itemsT (preD s k)), HP.blk g1 28 [.slice A1 n1 k1, .slice (some ⟨b, off, none⟩) n2 k2, .slice A3 n3 k3, .slice A4 n4 k4]]) ?_ ?_
        ·
          refine XK.seq ?_

          refine XK.region ?_
          refine xk_field (off := 0) (by kernel_rfl) rfl (by decide) ?_
          refine xk_ld rfl ?_
          refine xk_neq rfl rfl (by decide) ?_
          refine XK.nilN ?_
          refine XK.if_ rfl (fun hab => ?_) (fun hab => ?_)
          ·

            refine XK.region ?_
            refine xk_field (off := 0) (by kernel_rfl) rfl (by decide) ?_
            refine xk_ld rfl ?_
            refine xk_callR (f := 34) (fi := []) (ca := []) (by kernel_rfl) rfl rfl (by decide) (fun w1 st => itoa_ok c.above hx1 w1 (PowTab.go htab (st.below (by simp)))) ?_
            rw [show numW c.above = aboveW c.above from by rw [aboveW, if_neg hab]]
            refine xk_assign rfl (by decide) ?_
            refine XK.nilN ?_
            exact XK.envS [(9, .string (strOf (aboveW c.above))), (8, .pointer (some ⟨g4, 0, none⟩)), (34, .int .i64 (k : Int)), (33, .int .i64 (n2 : Int)), (32, .slice (some ⟨b, off, none⟩) n2 k2), (4, .pointer (some ⟨g2, 0, none⟩)), (3, .int .i64 0), (2, .string ⟨#[]⟩), (1, .pointer (some ⟨g1, 0, none⟩))] (XK.meet ⟨rfl, rfl, rfl⟩)
          ·
            refine XK.skip ?_
            refine XK.norm ?_
            have hab1 : c.above = -1 := by omega
            exact XK.envS [(9, .string ⟨#[45]⟩), (8, .pointer (some ⟨g4, 0, none⟩)), (34, .int .i64 (k : Int)), (33, .int .i64 (n2 : Int)), (32, .slice (some ⟨b, off, none⟩) n2 k2), (4, .pointer (some ⟨g2, 0, none⟩)), (3, .int .i64 0), (2, .string ⟨#[]⟩), (1, .pointer (some ⟨g1, 0, none⟩))] (XK.meet ⟨by rw [hab1]; rfl, rfl, rfl⟩)
        rintro _ _ _ ⟨rfl, rfl, rfl⟩

        refine XK.draw 7 (by kernel_rfl) (by kernel_rfl) ?_
        refine XA.dA 0 rfl rfl rfl (does_move rfl) ?_
        refine XA.dA 1 rfl rfl rfl (does_field (off := 1) (by kernel_rfl) rfl) ?_
        refine XA.dA 2 rfl rfl rfl (does_ld rfl) ?_
        refine XA.dA 4 rfl rfl rfl (does_field (off := 2) (by kernel_rfl) rfl) ?_
        refine XA.dA 5 rfl rfl rfl (does_ld rfl) ?_
        refine XA.next 3 rfl (by kernel_rfl) ?_
        refine xk_callR (f := 34) (fi := []) (ca := []) (by kernel_rfl) rfl rfl (by decide) (fun w1 st => itoa_ok c.delay hx2 w1 (PowTab.go htab (st.below (by simp)))) ?_
        refine XA.bk ?_
        refine XA.next 6 rfl (by kernel_rfl) ?_
        refine xk_callR (f := 35) (fi := []) (ca := []) (by kernel_rfl) rfl rfl (by decide) (fun w1 st => kept_ok c.ret w1) ?_
        refine XA.bk ?_
        refine XA.next 7 rfl (by kernel_rfl) ?_
        refine xk_slice (el := 9) (sz := 1) (zs := [.string ⟨#[]⟩]) (by kernel_rfl) (zeroB_of (by kernel_rfl)) (by kernel_rfl) rfl (by decide) (by decide) rfl (by simp [fillL, setN, Value.cells, List.range_succ, List.set]; rfl) (by decide) fun g5 => ?_
        refine XA.bt ?_
        refine XA.next 8 rfl (by kernel_rfl) ?_
        refine XK.still [] [0] [1, 2, 3] (by simp) rfl (by decide) (by decide) fun q hq _ _ => ?_
        have hSi : SlS q 1 (some ⟨g5, 0, none⟩) 4 (strCells ((domW c).map strOf)) := by
          obtain ⟨F, hF, hZ⟩ := hq 0 _ (by simp) rfl
          exact SlS.of_blk (Y := q.Z) (w := q.w) (c := 4) hF hZ rfl
        obtain ⟨hpre, suf, hsuf⟩ := preD_next hc
        have hstep := pre_step (Item.dom c) hsuf
        refine xk_callE 1 (f := 32) (fi := []) (ca := []) (HP.bldr g2 (itemsT (preD s k) ++ (joinW ((Item.dom c)).words ++ [10]))) (by kernel_rfl) rfl rfl rfl ⟨by decide, rfl⟩ (fun w1 F1 st hs hl hq => line_ok g2 _ ((Item.dom c)).words _ 4 4 w1 F1 hs hl (hSi.le (hq _ (by simp))) rfl (by omega) (by omega) (by omega) (by omega)) ?_
        dsimp only [List.set]
        rw [← itemsT_one, ← itemsT_app, ← hpre]
        refine XA.bt ?_
        refine XA.done (by kernel_rfl) ?_
        refine XK.norm ?_

        refine XK.region ?_
        refine xk_add rfl rfl (wrap_in (by omega)) (by decide) ?_
        refine xk_move rfl (by decide) ?_
        refine XK.nilN ?_
        exact XK.weak [1, 2] rfl (by decide) (by simp) (XK.envS [(34, .int .i64 ((k + 1 : Nat) : Int)), (33, .int .i64 (n2 : Int)), (32, .slice (some ⟨b, off, none⟩) n2 k2), (4, .pointer (some ⟨g2, 0, none⟩)), (3, .int .i64 0), (2, .string ⟨#[]⟩), (1, .pointer (some ⟨g1, 0, none⟩))] (XK.round _ (by omega) ⟨k + 1, by omega, rfl, rfl, rfl, rfl⟩))
      ·
        refine XK.exit ?_
        refine XK.norm ?_
        refine XK.seq ?_
        refine XK.seq ?_
        have hke : k = s.domains.length := by omega
        subst hke
        rw [preD_all]

        refine XK.region ?_
        refine xk_field (off := 2) (by kernel_rfl) rfl (by decide) ?_
        refine xk_ld rfl ?_
        refine xk_len (el := 71) (by kernel_rfl) rfl (by decide) ?_
        refine xk_move rfl (by decide) ?_
        refine XK.nilN ?_
        refine XK.envS [(57, .int .i64 0), (56, .int .i64 (n3 : Int)), (55, .slice A3 n3 k3), (4, .pointer (some ⟨g2, 0, none⟩)), (3, .int .i64 0), (2, .string ⟨#[]⟩), (1, .pointer (some ⟨g1, 0, none⟩))] ?_
        refine XK.block ?_
        refine XK.loop (fun m e R H => ∃ k : Nat, k ≤ n3 ∧ m = n3 - k ∧ e = [(57, .int .i64 (k : Int)), (56, .int .i64 (n3 : Int)), (55, .slice A3 n3 k3), (4, .pointer (some ⟨g2, 0, none⟩)), (3, .int .i64 0), (2, .string ⟨#[]⟩), (1, .pointer (some ⟨g1, 0, none⟩))] ∧ R = [all w] ∧ H = [HP.bldr g2 (itemsT (preR s k)), HP.blk g1 28 [.slice A1 n1 k1, .slice A2 n2 k2, .slice A3 n3 k3, .slice A4 n4 k4]]) n3 ⟨0, by omega, by omega, rfl, rfl, rfl⟩ fun m e R H hI => ?_
        obtain ⟨k, hkn, rfl, rfl, rfl, rfl⟩ := hI
        refine XK.seq ?_

        refine XK.region ?_
        refine xk_lss rfl rfl (by decide) ?_
        refine XK.nilN ?_
        refine XK.seq ?_
        refine XK.if_ rfl (fun hlt => ?_) (fun hlt => ?_)
        ·
          refine XK.skip ?_
          refine XK.norm ?_
          refine XK.seq ?_
          refine XK.block ?_
          refine XK.seq ?_
          have hks : k < n3 := by omega
          obtain ⟨c, hc⟩ : ∃ c, s.resets[k]? = some c := ⟨_, List.getElem?_eq_getElem (by omega)⟩
          have hcm := List.mem_of_getElem? hc
          obtain ⟨b, off, r, rfl, _, rfl, hro⟩ := hW.rst.row hc
          have hx1 := h64.resets c hcm

          refine XK.region ?_
          refine xk_at (k) (off + k * 1) (el := 71) (sz := 1) (by kernel_rfl) (by kernel_rfl) rfl rfl (by omega) (by omega) (by omega) (by decide) ?_
          refine xk_ldN 1 rfl ?_
          refine xk_alloc (cs := [.int .i64 0]) (zeroB_of (by kernel_rfl)) (by decide) fun g6 => ?_
          (first | (refine xk_storeN 0 rfl rfl rfl (by kernel_rfl) (by simp [Value.cells, Value.oneCell']) (by simp [Value.cells]) ?_) | (refine xk_storeN 1 rfl rfl rfl (by kernel_rfl) (by simp [Value.cells, Value.oneCell']) (by simp [Value.cells]) ?_) | (refine xk_storeN 2 rfl rfl rfl (by kernel_rfl) (by simp [Value.cells, Value.oneCell']) (by simp [Value.cells]) ?_) | (refine xk_storeN 3 rfl rfl rfl (by kernel_rfl) (by simp [Value.cells, Value.oneCell']) (by simp [Value.cells]) ?_) | (refine xk_storeN 4 rfl rfl rfl (by kernel_rfl) (by simp [Value.cells, Value.oneCell']) (by simp [Value.cells]) ?_) | (refine xk_storeN 5 rfl rfl rfl (by kernel_rfl) (by simp [Value.cells, Value.oneCell']) (by simp [Value.cells]) ?_) | (refine xk_storeN 6 rfl rfl rfl (by kernel_rfl) (by simp [Value.cells, Value.oneCell']) (by simp [Value.cells]) ?_) | (refine xk_storeN 7 rfl rfl rfl (by kernel_rfl) (by simp [Value.cells, Value.oneCell']) (by simp [Value.cells]) ?_) | (refine xk_storeN 8 rfl rfl rfl (by kernel_rfl) (by simp [Value.cells, Value.oneCell']) (by simp [Value.cells]) ?_)); simp only [putN, Value.cells, List.set, List.take, List.drop, List.nil_append, List.append_nil, List.length_cons, List.length_nil, List.cons_append, Nat.reduceAdd]
          refine XK.nilN ?_

          refine XK.region ?_
          refine xk_field (off := 0) (by kernel_rfl) rfl (by decide) ?_
          refine xk_ld rfl ?_
          refine xk_callR (f := 34) (fi := []) (ca := []) (by kernel_rfl) rfl rfl (by decide) (fun w1 st => itoa_ok c hx1 w1 (PowTab.go htab (st.below (by simp)))) ?_
          refine xk_slice (el := 9) (sz := 1) (zs := [.string ⟨#[]⟩]) (by kernel_rfl) (zeroB_of (by kernel_rfl)) (by kernel_rfl) rfl (by decide) (by decide) rfl (by simp [fillL, setN, Value.cells, List.range_succ, List.set]; rfl) (by decide) fun g7 => ?_
          refine XK.still [] [0] [1, 2, 3] (by simp) rfl (by decide) (by decide) fun q hq _ _ => ?_
          have hSi : SlS q 1 (some ⟨g7, 0, none⟩) 2 (strCells ((resW c).map strOf)) := by
            obtain ⟨F, hF, hZ⟩ := hq 0 _ (by simp) rfl
            exact SlS.of_blk (Y := q.Z) (w := q.w) (c := 2) hF hZ rfl
          obtain ⟨hpre, suf, hsuf⟩ := preR_next hc
          have hstep := pre_step (Item.res c) hsuf
          refine xk_callE 1 (f := 32) (fi := []) (ca := []) (HP.bldr g2 (itemsT (preR s k) ++ (joinW ((Item.res c)).words ++ [10]))) (by kernel_rfl) rfl rfl rfl ⟨by decide, rfl⟩ (fun w1 F1 st hs hl hq => line_ok g2 _ ((Item.res c)).words _ 2 2 w1 F1 hs hl (hSi.le (hq _ (by simp))) rfl (by omega) (by omega) (by omega) (by omega)) ?_
          dsimp only [List.set]
          rw [← itemsT_one, ← itemsT_app, ← hpre]
          refine XK.nilN ?_

          refine XK.region ?_
          refine xk_add rfl rfl (wrap_in (by omega)) (by decide) ?_
          refine xk_move rfl (by decide) ?_
          refine XK.nilN ?_
          exact XK.weak [1, 2] rfl (by decide) (by simp) (XK.envS [(57, .int .i64 ((k + 1 : Nat) : Int)), (56, .int .i64 (n3 : Int)), (55, .slice (some ⟨b, off, none⟩) n3 k3), (4, .pointer (some ⟨g2, 0, none⟩)), (3, .int .i64 0), (2, .string ⟨#[]⟩), (1, .pointer (some ⟨g1, 0, none⟩))] (XK.round _ (by omega) ⟨k + 1, by omega, rfl, rfl, rfl, rfl⟩))
        ·
          refine XK.exit ?_
          refine XK.norm ?_
          refine XK.seq ?_
          refine XK.seq ?_
          have hke : k = s.resets.length := by omega
          subst hke
          rw [preR_all]

          refine XK.region ?_
          refine xk_field (off := 3) (by kernel_rfl) rfl (by decide) ?_
          refine xk_ld rfl ?_
          refine xk_len (el := 51) (by kernel_rfl) rfl (by decide) ?_
          refine xk_move rfl (by decide) ?_
          refine XK.nilN ?_
          refine XK.envS [(70, .int .i64 0), (69, .int .i64 (n4 : Int)), (68, .slice A4 n4 k4), (4, .pointer (some ⟨g2, 0, none⟩)), (3, .int .i64 0), (2, .string ⟨#[]⟩), (1, .pointer (some ⟨g1, 0, none⟩))] ?_
          refine XK.block ?_
          refine XK.loop (fun m e R H => ∃ k : Nat, k ≤ n4 ∧ m = n4 - k ∧ e = [(70, .int .i64 (k : Int)), (69, .int .i64 (n4 : Int)), (68, .slice A4 n4 k4), (4, .pointer (some ⟨g2, 0, none⟩)), (3, .int .i64 0), (2, .string ⟨#[]⟩), (1, .pointer (some ⟨g1, 0, none⟩))] ∧ R = [all w] ∧ H = [HP.bldr g2 (itemsT (preV s k)), HP.blk g1 28 [.slice A1 n1 k1, .slice A2 n2 k2, .slice A3 n3 k3, .slice A4 n4 k4]]) n4 ⟨0, by omega, by omega, rfl, rfl, rfl⟩ fun m e R H hI => ?_
          obtain ⟨k, hkn, rfl, rfl, rfl, rfl⟩ := hI
          refine XK.seq ?_

          refine XK.region ?_
          refine xk_lss rfl rfl (by decide) ?_
          refine XK.nilN ?_
          refine XK.seq ?_
          refine XK.if_ rfl (fun hlt => ?_) (fun hlt => ?_)
          ·
            refine XK.skip ?_
            refine XK.norm ?_
            refine XK.seq ?_
            refine XK.block ?_
            refine XK.seq ?_
            have hks : k < n4 := by omega
            obtain ⟨d, hd⟩ : ∃ d, s.devs[k]? = some d := ⟨_, List.getElem?_eq_getElem (by omega)⟩
            have hdm := List.mem_of_getElem? hd
            obtain ⟨b, off, r, rfl, _, ⟨Ar, nr, kr, Ad, nd, kd, rfl, hnr, hnd, hSr, hSd⟩, hro⟩ := hW.dev.row hd
            obtain ⟨hx1, hx2, hx3, hx4, hx5, hx6⟩ := h64.devs d hdm
            have hsm := hW.small.2.2.2.2.2 d hdm
            have hrg := hregs d hdm

            refine XK.region ?_
            refine xk_at (k) (off + k * 6) (el := 51) (sz := 6) (by kernel_rfl) (by kernel_rfl) rfl rfl (by omega) (by omega) (by omega) (by decide) ?_
            refine xk_ldN 6 rfl ?_
            refine xk_alloc (cs := [.int .i64 0, .int .i64 0, .int .i64 0, .int .u32 0, .slice none 0 0, .slice none 0 0]) (zeroB_of (by kernel_rfl)) (by decide) fun g8 => ?_
            (first | (refine xk_storeN 0 rfl rfl rfl (by kernel_rfl) (by simp [Value.cells, Value.oneCell']) (by simp [Value.cells]) ?_) | (refine xk_storeN 1 rfl rfl rfl (by kernel_rfl) (by simp [Value.cells, Value.oneCell']) (by simp [Value.cells]) ?_) | (refine xk_storeN 2 rfl rfl rfl (by kernel_rfl) (by simp [Value.cells, Value.oneCell']) (by simp [Value.cells]) ?_) | (refine xk_storeN 3 rfl rfl rfl (by kernel_rfl) (by simp [Value.cells, Value.oneCell']) (by simp [Value.cells]) ?_) | (refine xk_storeN 4 rfl rfl rfl (by kernel_rfl) (by simp [Value.cells, Value.oneCell']) (by simp [Value.cells]) ?_) | (refine xk_storeN 5 rfl rfl rfl (by kernel_rfl) (by simp [Value.cells, Value.oneCell']) (by simp [Value.cells]) ?_) | (refine xk_storeN 6 rfl rfl rfl (by kernel_rfl) (by simp [Value.cells, Value.oneCell']) (by simp [Value.cells]) ?_) | (refine xk_storeN 7 rfl rfl rfl (by kernel_rfl) (by simp [Value.cells, Value.oneCell']) (by simp [Value.cells]) ?_) | (refine xk_storeN 8 rfl rfl rfl (by kernel_rfl) (by simp [Value.cells, Value.oneCell']) (by simp [Value.cells]) ?_)); simp only [putN, Value.cells, List.set, List.take, List.drop, List.nil_append, List.append_nil, List.length_cons, List.length_nil, List.cons_append, Nat.reduceAdd]
            refine XK.nilN ?_
            refine XK.seq ?_

            refine XK.region ?_
            refine xk_slice (el := 9) (sz := 1) (zs := [.string ⟨#[]⟩]) (by kernel_rfl) (zeroB_of (by kernel_rfl)) (by kernel_rfl) rfl (by decide) (by decide) rfl (by simp [fillL, setN, Value.cells, List.range_succ, List.set]; rfl) (by decide) fun g9 => ?_
            refine xk_field (off := 0) (by kernel_rfl) rfl (by decide) ?_
            refine xk_ld rfl ?_
            refine xk_field (off := 1) (by kernel_rfl) rfl (by decide) ?_
            refine xk_ld rfl ?_
            refine xk_field (off := 2) (by kernel_rfl) rfl (by decide) ?_
            refine xk_ld rfl ?_
            refine xk_slice (el := 3) (sz := 1) (zs := [.int .i64 0]) (by kernel_rfl) (zeroB_of (by kernel_rfl)) (by kernel_rfl) rfl (by decide) (by decide) rfl (by simp [fillL, setN, Value.cells, List.range_succ, List.set]; rfl) (by decide) fun g10 => ?_
            refine xk_call (f := 36) (fi := []) (ca := []) [] (by kernel_rfl) rfl rfl (by decide) (by simp) (fun v w w' => WrdOk (wrdS [d.clock, d.domain, d.reset]) v w w') (fun w1 st => ints_ok [d.clock, d.domain, d.reset] _ _ _ w1 (by obtain ⟨B, hB⟩ := sl_blk (sz := 1) (m := 3) 0 rfl rfl w1 st; exact SlS.ofB hB) rfl (by omega) (by intro x hx; simp at hx; rcases hx with rfl | rfl | rfl <;> assumption) (PowTab.go htab (st.below (by simp)))) fun v w1 q hv hq _ _ => ?_
            obtain ⟨Ai, ci, rfl, hci, hSi⟩ := hv
            rw [wrdS_len] at hci hSi ⊢
            have hSi := SlS.le hSi hq
            refine XK.asOwn 1 1 1 rfl rfl (by omega) ?_
            dsimp only [List.set]
            rw [show ([.string ⟨#[100, 101, 118, 105, 99, 101]⟩] : List Value) = strCells [strOf kwV] from rfl]
            refine xk_appendT 1 1 16 3 (n' := 4) (el := 9) (by kernel_rfl) (by kernel_rfl) (by decide) rfl rfl rfl (sl_ro (p := q) (by simp) hSi) (strCells_cell _) rfl (by omega) (by omega) (by decide) fun A5 c5 => ?_
            dsimp only [List.set]
            rw [strCells_app]
            refine xk_assign rfl (by decide) ?_
            refine XK.nilN ?_
            refine XK.seq ?_

            refine XK.region ?_
            refine xk_move rfl (by decide) ?_
            refine xk_field (off := 3) (by kernel_rfl) rfl (by decide) ?_
            refine xk_ld rfl ?_
            refine xk_callR (f := 37) (fi := []) (ca := []) (by kernel_rfl) rfl rfl (by decide) (fun w1 st => word32_ok d.clamp hx4 w1 (PowTab.go htab (st.below (by simp)))) ?_
            refine xk_slice (el := 9) (sz := 1) (zs := [.string ⟨#[]⟩]) (by kernel_rfl) (zeroB_of (by kernel_rfl)) (by kernel_rfl) rfl (by decide) (by decide) rfl (by simp [fillL, setN, Value.cells, List.range_succ, List.set]; rfl) (by decide) fun g11 => ?_
            refine xk_appendT 2 1 16 1 (n' := 5) (el := 9) (by kernel_rfl) (by kernel_rfl) (by decide) rfl rfl rfl (sl_blk 0 rfl rfl) (news := strCells (wrdS [d.clamp])) (strCells_cell _) rfl (by omega) (by omega) (by decide) fun A6 c6 => ?_
            dsimp only [List.set]
            rw [strCells_app]
            refine xk_assign rfl (by decide) ?_
            refine XK.nilN ?_
            refine XK.seq ?_

            refine XK.region ?_
            refine xk_move rfl (by decide) ?_
            refine xk_field (off := 5) (by kernel_rfl) rfl (by decide) ?_
            refine xk_ld rfl ?_
            refine xk_call (f := 36) (fi := []) (ca := []) [] (by kernel_rfl) rfl rfl (by decide) (by simp) (fun v w w' => WrdOk (wrdS d.needs) v w w') (fun w1 st => ints_ok d.needs _ _ _ w1 (SlS.le hSd (st.le (p := all w) (by simp))) hnd.symm (by omega) hx5 (PowTab.go htab (st.below (by simp)))) fun v w1 q hv hq _ _ => ?_
            obtain ⟨Ai, ci, rfl, hci, hSi⟩ := hv
            rw [wrdS_len] at hci hSi ⊢
            have hSi := SlS.le hSi hq
            refine xk_appendT 2 1 16 d.needs.length (n' := 5 + d.needs.length) (el := 9) (by kernel_rfl) (by kernel_rfl) (by decide) rfl rfl rfl (sl_ro (p := q) (by simp) hSi) (strCells_cell _) rfl (by omega) (by omega) (by decide) fun A7 c7 => ?_
            dsimp only [List.set]
            rw [strCells_app]
            have hdw : (Item.dev d.bare).words.map strOf = [strOf kwV] ++ wrdS [d.clock, d.domain, d.reset] ++ wrdS [d.clamp] ++ wrdS d.needs := by simp [Item.words, devW, wrdS, Dev.bare]
            have hdl : (Item.dev d.bare).words.length = 5 + d.needs.length := by simp [Item.words, devW, Dev.bare]; omega
            refine XK.still [] [2] [3, 4, 5] (by simp) rfl (by decide) (by decide) fun q3 hq3 _ _ => ?_
            obtain ⟨F3, hF3, hZ3⟩ := hq3 2 _ (by simp) rfl
            have hcap3 := own_cap hF3
            have hS3 := SlS.own (q := q3) ⟨F3, hF3, hZ3⟩
            rw [← hdw] at hS3
            obtain ⟨suf, hsuf⟩ := preV_dev hd
            have hstep := pre_step (Item.dev d.bare) hsuf
            refine xk_callE 1 (f := 32) (fi := []) (ca := []) (HP.bldr g2 (itemsT (preV s k) ++ (joinW ((Item.dev d.bare)).words ++ [10]))) (by kernel_rfl) rfl rfl rfl ⟨by decide, rfl⟩ (fun w1 F1 st hs hl hq => line_ok g2 _ ((Item.dev d.bare)).words A7 _ c7 w1 F1 hs hl (hS3.le (hq _ (by simp))) hdl (by omega) hcap3 (by omega) (by omega)) ?_
            dsimp only [List.set]
            rw [← itemsT_one, ← itemsT_app, ]
            refine XK.nilN ?_
            refine XK.seq ?_
            refine XK.weakR (R' := [all w]) (by simp) ?_
            rw [show preV s k ++ [Item.dev d.bare] = preG s k d 0 from by simp [preG]]

            refine XK.region ?_
            refine xk_field (off := 4) (by kernel_rfl) rfl (by decide) ?_
            refine xk_ld rfl ?_
            refine xk_len (el := 57) (by kernel_rfl) rfl (by decide) ?_
            refine xk_move rfl (by decide) ?_
            refine XK.nilN ?_
            refine XK.envS [(99, .int .i64 0), (98, .int .i64 (nr : Int)), (97, .slice Ar nr kr), (70, .int .i64 (k : Int)), (69, .int .i64 (n4 : Int)), (68, .slice (some ⟨b, off, none⟩) n4 k4), (4, .pointer (some ⟨g2, 0, none⟩)), (3, .int .i64 0), (2, .string ⟨#[]⟩), (1, .pointer (some ⟨g1, 0, none⟩))] ?_
            refine XK.weak [1, 2] rfl (by decide) (fun _ h => h) ?_
            refine XK.block ?_
            refine XK.loop (fun m e R H => ∃ j : Nat, j ≤ nr ∧ m = nr - j ∧ e = [(99, .int .i64 (j : Int)), (98, .int .i64 (nr : Int)), (97, .slice Ar nr kr), (70, .int .i64 (k : Int)), (69, .int .i64 (n4 : Int)), (68, .slice (some ⟨b, off, none⟩) n4 k4), (4, .pointer (some ⟨g2, 0, none⟩)), (3, .int .i64 0), (2, .string ⟨#[]⟩), (1, .pointer (some ⟨g1, 0, none⟩))] ∧ R = [all w] ∧ H = [HP.bldr g2 (itemsT (preG s k d j)), HP.blk g1 28 [.slice A1 n1 k1, .slice A2 n2 k2, .slice A3 n3 k3, .slice (some ⟨b, off, none⟩) n4 k4]]) nr ⟨0, by omega, by omega, rfl, rfl, rfl⟩ fun m e R H hI => ?_
            obtain ⟨j, hjn, rfl, rfl, rfl, rfl⟩ := hI
            refine XK.seq ?_

            refine XK.region ?_
            refine xk_lss rfl rfl (by decide) ?_
            refine XK.nilN ?_
            refine XK.seq ?_
            refine XK.if_ rfl (fun hltj => ?_) (fun hltj => ?_)
            ·
              refine XK.skip ?_
              refine XK.norm ?_
              refine XK.seq ?_
              refine XK.block ?_
              refine XK.seq ?_
              have hjs : j < nr := by omega
              obtain ⟨r0, hr0⟩ : ∃ r0, d.regs[j]? = some r0 := ⟨_, List.getElem?_eq_getElem (by omega)⟩
              have hr0m := List.mem_of_getElem? hr0
              obtain ⟨hy1, hy2⟩ := hx6 r0 hr0m
              have hSr' : SlS (all w) 2 Ar nr (d.regs.map Rg.cells).flatten := by rw [← List.flatMap_def]; exact hSr
              obtain ⟨b2, off2, rfl, hro2⟩ := SlS.row hSr' (by intro r hr; rw [List.mem_map] at hr; obtain ⟨x, _, rfl⟩ := hr; rfl) (k := j) (r := [.int .u32 r0.reset, .bool r0.kept]) (by rw [List.getElem?_map, hr0]; rfl) (by omega)

              refine XK.region ?_
              refine xk_at (j) (off2 + j * 2) (el := 57) (sz := 2) (by kernel_rfl) (by kernel_rfl) rfl rfl (by omega) (by omega) (by omega) (by decide) ?_
              refine xk_ldN 2 rfl ?_
              refine xk_alloc (cs := [.int .u32 0, .bool false]) (zeroB_of (by kernel_rfl)) (by decide) fun g12 => ?_
              (first | (refine xk_storeN 0 rfl rfl rfl (by kernel_rfl) (by simp [Value.cells, Value.oneCell']) (by simp [Value.cells]) ?_) | (refine xk_storeN 1 rfl rfl rfl (by kernel_rfl) (by simp [Value.cells, Value.oneCell']) (by simp [Value.cells]) ?_) | (refine xk_storeN 2 rfl rfl rfl (by kernel_rfl) (by simp [Value.cells, Value.oneCell']) (by simp [Value.cells]) ?_) | (refine xk_storeN 3 rfl rfl rfl (by kernel_rfl) (by simp [Value.cells, Value.oneCell']) (by simp [Value.cells]) ?_) | (refine xk_storeN 4 rfl rfl rfl (by kernel_rfl) (by simp [Value.cells, Value.oneCell']) (by simp [Value.cells]) ?_) | (refine xk_storeN 5 rfl rfl rfl (by kernel_rfl) (by simp [Value.cells, Value.oneCell']) (by simp [Value.cells]) ?_) | (refine xk_storeN 6 rfl rfl rfl (by kernel_rfl) (by simp [Value.cells, Value.oneCell']) (by simp [Value.cells]) ?_) | (refine xk_storeN 7 rfl rfl rfl (by kernel_rfl) (by simp [Value.cells, Value.oneCell']) (by simp [Value.cells]) ?_) | (refine xk_storeN 8 rfl rfl rfl (by kernel_rfl) (by simp [Value.cells, Value.oneCell']) (by simp [Value.cells]) ?_)); simp only [putN, Value.cells, List.set, List.take, List.drop, List.nil_append, List.append_nil, List.length_cons, List.length_nil, List.cons_append, Nat.reduceAdd]
              refine XK.nilN ?_

              refine XK.draw 5 (by kernel_rfl) (by kernel_rfl) ?_
              refine XA.dA 0 rfl rfl rfl (does_field (off := 0) (by kernel_rfl) rfl) ?_
              refine XA.dA 1 rfl rfl rfl (does_ld rfl) ?_
              refine XA.dA 3 rfl rfl rfl (does_field (off := 1) (by kernel_rfl) rfl) ?_
              refine XA.dA 4 rfl rfl rfl (does_ld rfl) ?_
              refine XA.next 2 rfl (by kernel_rfl) ?_
              refine xk_callR (f := 37) (fi := []) (ca := []) (by kernel_rfl) rfl rfl (by decide) (fun w1 st => word32_ok r0.reset ⟨hy1, hy2⟩ w1 (PowTab.go htab (st.below (by simp)))) ?_
              refine XA.bk ?_
              refine XA.next 5 rfl (by kernel_rfl) ?_
              refine xk_callR (f := 35) (fi := []) (ca := []) (by kernel_rfl) rfl rfl (by decide) (fun w1 st => kept_ok r0.kept w1) ?_
              refine XA.bt ?_
              refine XA.next 6 rfl (by kernel_rfl) ?_
              refine xk_slice (el := 9) (sz := 1) (zs := [.string ⟨#[]⟩]) (by kernel_rfl) (zeroB_of (by kernel_rfl)) (by kernel_rfl) rfl (by decide) (by decide) rfl (by simp [fillL, setN, Value.cells, List.range_succ, List.set]; rfl) (by decide) fun g13 => ?_
              refine XA.bt ?_
              refine XA.next 7 rfl (by kernel_rfl) ?_
              refine XK.still [] [0] [1, 2, 3] (by simp) rfl (by decide) (by decide) fun q hq _ _ => ?_
              have hSi : SlS q 1 (some ⟨g13, 0, none⟩) 3 (strCells ((rgW r0).map strOf)) := by
                obtain ⟨F, hF, hZ⟩ := hq 0 _ (by simp) rfl
                exact SlS.of_blk (Y := q.Z) (w := q.w) (c := 3) hF hZ rfl
              obtain ⟨hpre, suf, hsuf⟩ := preG_next hd hr0
              have hstep := pre_step (Item.reg r0) hsuf
              refine xk_callE 1 (f := 32) (fi := []) (ca := []) (HP.bldr g2 (itemsT (preG s k d j) ++ (joinW ((Item.reg r0)).words ++ [10]))) (by kernel_rfl) rfl rfl rfl ⟨by decide, rfl⟩ (fun w1 F1 st hs hl hq => line_ok g2 _ ((Item.reg r0)).words _ 3 3 w1 F1 hs hl (hSi.le (hq _ (by simp))) rfl (by omega) (by omega) (by omega) (by omega)) ?_
              dsimp only [List.set]
              rw [← itemsT_one, ← itemsT_app, ← hpre]
              refine XA.bt ?_
              refine XA.done (by kernel_rfl) ?_
              refine XK.norm ?_

              refine XK.region ?_
              refine xk_add rfl rfl (wrap_in (by omega)) (by decide) ?_
              refine xk_move rfl (by decide) ?_
              refine XK.nilN ?_
              exact XK.weak [1, 2] rfl (by decide) (by simp) (XK.envS [(99, .int .i64 ((j + 1 : Nat) : Int)), (98, .int .i64 (nr : Int)), (97, .slice (some ⟨b2, off2, none⟩) nr kr), (70, .int .i64 (k : Int)), (69, .int .i64 (n4 : Int)), (68, .slice (some ⟨b, off, none⟩) n4 k4), (4, .pointer (some ⟨g2, 0, none⟩)), (3, .int .i64 0), (2, .string ⟨#[]⟩), (1, .pointer (some ⟨g1, 0, none⟩))] (XK.round _ (by omega) ⟨j + 1, by omega, rfl, rfl, rfl, rfl⟩))
            ·
              refine XK.exit ?_
              refine XK.norm ?_
              have hje : j = d.regs.length := by omega
              subst hje
              rw [← preV_next hd]

              refine XK.region ?_
              refine xk_add rfl rfl (wrap_in (by omega)) (by decide) ?_
              refine xk_move rfl (by decide) ?_
              refine XK.nilN ?_
              exact XK.envS [(70, .int .i64 ((k + 1 : Nat) : Int)), (69, .int .i64 (n4 : Int)), (68, .slice (some ⟨b, off, none⟩) n4 k4), (4, .pointer (some ⟨g2, 0, none⟩)), (3, .int .i64 0), (2, .string ⟨#[]⟩), (1, .pointer (some ⟨g1, 0, none⟩))] (XK.round _ (by omega) ⟨k + 1, by omega, rfl, rfl, rfl, rfl⟩)
          ·
            refine XK.exit ?_
            refine XK.norm ?_
            refine XK.seq ?_
            have hke : k = s.devs.length := by omega
            subst hke
            rw [preV_all]

            refine XK.region ?_
            refine xk_bldEnd 0 (f := 38) (fi := []) (ca := []) (b := g2) (l := printF s) (v := .string (strOf (printF s))) (by kernel_rfl) rfl rfl rfl (by decide) (by simp) (fun w1 hB => (Tryz.Builder_String_any w.heap.size g2 (printF s) w1 hB.1 hB.2).mono fun y w2 hy => ⟨hy.1, hy.2⟩) ?_
            refine xk_assign rfl (by decide) ?_
            refine xk_assign rfl (by decide) ?_
            refine XK.nilN ?_
            refine XK.ret ?_
            refine XK.norm ?_
            exact XK.ret2 rfl rfl rfl fun w1 st => ⟨by rw [if_pos hchk, if_pos hchk], st.below (by simp)⟩

end Go.Proofs.YtgopaoidgcgalaaGreatDoor
/- A chip that a piece shows; rows, as a piece shows them. -/
namespace Go.Proofs.YtgopaoidgcgalaaGreatDoor
set_option linter.all false
open Go.RowKit
/-- a chip that a piece shows -/
structure SocQ (p : Piece) (s : Soc) (A1 : Option Addr) (n1 : Nat) (A2 : Option Addr) (n2 : Nat) (A3 : Option Addr) (n3 : Nat) (A4 : Option Addr) (n4 : Nat) : Prop where
  clk : RsR (slq p) (ClkR (slq p)) 55 6 A1 n1 s.clocks
  dom : RsR (slq p) DomR 69 3 A2 n2 s.domains
  rst : RsR (slq p) RstR 71 1 A3 n3 s.resets
  dev : RsR (slq p) (DevR (slq p)) 51 6 A4 n4 s.devs
section
variable {p q : Piece} {w : World} {s : Soc} {A1 A2 A3 A4 : Option Addr} {n1 n2 n3 n4 : Nat}
theorem SocQ.le (h : SocQ p s A1 n1 A2 n2 A3 n3 A4 n4) (hl : p.Le q) : SocQ q s A1 n1 A2 n2 A3 n3 A4 n4 :=
  ⟨h.clk.mono (slq_le hl) (fun _ _ => ClkR.mono (slq_le hl)), h.dom.mono (slq_le hl) (fun _ _ h => h), h.rst.mono (slq_le hl) (fun _ _ h => h), h.dev.mono (slq_le hl) (fun _ _ => DevR.mono (slq_le hl))⟩
theorem SocQ.W (h : SocQ p s A1 n1 A2 n2 A3 n3 A4 n4) (hl : p.Le (all w)) (hs : s.small) : SocW w s A1 n1 A2 n2 A3 n3 A4 n4 := ⟨(h.le hl).clk, (h.le hl).dom, (h.le hl).rst, (h.le hl).dev, hs⟩
theorem SocQ.len (h : SocQ p s A1 n1 A2 n2 A3 n3 A4 n4) : n1 = s.clocks.length ∧ n2 = s.domains.length ∧ n3 = s.resets.length ∧ n4 = s.devs.length := by
  obtain ⟨⟨_, _, h1, _⟩, ⟨_, _, h2, _⟩, ⟨_, _, h3, _⟩, ⟨_, _, h4, _⟩⟩ := h
  exact ⟨h1, h2, h3, h4⟩
theorem SocR.Q {cs : Array Value} (h : SocR (slq p) s cs) : ∃ A1 n1 k1 A2 n2 k2 A3 n3 k3 A4 n4 k4, cs = #[.slice A1 n1 k1, .slice A2 n2 k2, .slice A3 n3 k3, .slice A4 n4 k4] ∧ SocQ p s A1 n1 A2 n2 A3 n3 A4 n4 := by
  obtain ⟨A1, n1, k1, A2, n2, k2, A3, n3, k3, A4, n4, k4, h0, h1, h2, h3, h4⟩ := h
  exact ⟨A1, n1, k1, A2, n2, k2, A3, n3, k3, A4, n4, k4, h0, h1, h2, h3, h4⟩
end
theorem RsR.rowQ {α : Type} {p : Piece} {R : α → List Value → Prop} {t : TypeId} {sz n : Nat} {A : Option Addr} {es : List α} (h : RsR (slq p) R t sz A n es) {k : Nat} {e : α} (hk : es[k]? = some e) :
    ∃ b off r, A = some ⟨b, off, none⟩ ∧ p.Z b ∧ r.length = sz ∧ R e r ∧ ∀ f u, r[f]? = some u → p.w.cell? ⟨b, off + k * sz + f, none⟩ = some u := by
  obtain ⟨rows, h1, h2, h3⟩ := h
  have hlt : k < n := by
    rw [h2]
    rcases Nat.lt_or_ge k es.length with h | h
    · exact h
    · rw [List.getElem?_eq_none h] at hk; cases hk
  obtain ⟨b, off, hA, hb, hc⟩ := SlS.at_ h3 hlt
  obtain ⟨r, h4, h5, h6⟩ := h1.get hk
  refine ⟨b, off, r, hA, hb, h4, h5, fun f u hu => hc f u ?_⟩
  have hf : f < sz := by
    rw [← h4]
    rcases Nat.lt_or_ge f r.length with h | h
    · exact h
    · rw [List.getElem?_eq_none h] at hu; cases hu
  rw [h6 f hf, hu]
end Go.Proofs.YtgopaoidgcgalaaGreatDoor
/- lines.Parse's deferred closure. -/
namespace Go.Proofs.YtgopaoidgcgalaaGreatDoor
set_option linter.all false
open Go.RowKit
theorem rec_idle (g1 g2 : Nat) (w : World) :
    CallsD Tryz.prog 23 #[.pointer (some ⟨g1, 0, none⟩), .pointer (some ⟨g2, 0, none⟩)] .returning w fun e u' w' => e = .returned (.tuple #[]) ∧ u' = .returning ∧ w' = w := by
  refine callsD_of_wpS Tryz.func23 rfl fun c₀ cs hu => ?_
  apply wpS_seq
  apply wpS_region
  simp [wpOpsS, go_sem, recoverD, hu, Tryz.ntmps23, Exit.thenS]
  refine wpS_cond (t := false) (by simp [Act.eval, Array.replicate]) ?_
  simp only [Bool.false_eq_true, if_false]
  refine wpS_of_wp (wp_skip ?_)
  cases c₀
  simp_all [bodyPostS, results, Tryz.results23]
theorem rec_catch {w0 : World} {R : List Piece} {g1 g2 : Nat} {T : TypeId} {pv : Value} {w : World} (st : St w0 R [HP.blk g2 29 [.int .i64 0], HP.blk g1 28 [.slice none 0 0, .slice none 0 0, .slice none 0 0, .slice none 0 0]] w) :
    CallsD Tryz.prog 23 #[.pointer (some ⟨g1, 0, none⟩), .pointer (some ⟨g2, 0, none⟩)] (.panicking (pan (.iface T pv))) w fun e u' w' =>
      (∃ v, e = .returned v) ∧ settle u' = .returning ∧ St w0 R [HP.blk g2 29 [.int .i64 2], HP.blk g1 28 [.slice none 0 0, .slice none 0 0, .slice none 0 0, .slice none 0 0]] w' := by
  refine callsD_of_wpS Tryz.func23 rfl fun c₀ cs hu => ?_
  unfold pan at hu
  apply wpS_seq
  apply wpS_region
  simp [wpOpsS, go_sem, recoverD, hu, Tryz.ntmps23, Exit.thenS]
  refine wpS_cond (t := true) (by simp [Act.eval, Array.replicate]) ?_
  simp only [if_true]
  refine wpS_of_wp ?_
  refine (show XK ⟨5, []⟩ w0 _ [(0, .pointer (some ⟨g1, 0, none⟩)), (1, .pointer (some ⟨g2, 0, none⟩))] R [HP.blk g2 29 [.int .i64 0], HP.blk g1 28 [.slice none 0 0, .slice none 0 0, .slice none 0 0, .slice none 0 0]] from ?_) _ _ ⟨by simp, rfl, fun t v hv => ?_⟩ st
  · refine XK.region ?_
    refine xk_buildS (zs := [.slice none 0 0, .slice none 0 0, .slice none 0 0, .slice none 0 0]) (L := [(0, 1), (1, 1), (2, 1), (3, 1)]) (zeroB_of (by kernel_rfl)) (by kernel_rfl) rfl (by simp [fillL, setN, Value.cells]; rfl) (by decide) ?_
    (first | (refine xk_storeN 0 rfl rfl rfl (by kernel_rfl) (by simp [Value.cells, Value.oneCell']) (by simp [Value.cells]) ?_) | (refine xk_storeN 1 rfl rfl rfl (by kernel_rfl) (by simp [Value.cells, Value.oneCell']) (by simp [Value.cells]) ?_) | (refine xk_storeN 2 rfl rfl rfl (by kernel_rfl) (by simp [Value.cells, Value.oneCell']) (by simp [Value.cells]) ?_) | (refine xk_storeN 3 rfl rfl rfl (by kernel_rfl) (by simp [Value.cells, Value.oneCell']) (by simp [Value.cells]) ?_) | (refine xk_storeN 4 rfl rfl rfl (by kernel_rfl) (by simp [Value.cells, Value.oneCell']) (by simp [Value.cells]) ?_) | (refine xk_storeN 5 rfl rfl rfl (by kernel_rfl) (by simp [Value.cells, Value.oneCell']) (by simp [Value.cells]) ?_) | (refine xk_storeN 6 rfl rfl rfl (by kernel_rfl) (by simp [Value.cells, Value.oneCell']) (by simp [Value.cells]) ?_) | (refine xk_storeN 7 rfl rfl rfl (by kernel_rfl) (by simp [Value.cells, Value.oneCell']) (by simp [Value.cells]) ?_) | (refine xk_storeN 8 rfl rfl rfl (by kernel_rfl) (by simp [Value.cells, Value.oneCell']) (by simp [Value.cells]) ?_)); simp only [putN, Value.cells, List.set, List.take, List.drop, List.nil_append, List.append_nil, List.length_cons, List.length_nil, List.cons_append, Nat.reduceAdd]
    refine xk_st rfl rfl ?_; dsimp only [List.set]
    refine XK.nil ?_
    intro a w' hr st'
    exact ⟨hr.defers, _, rfl, .tuple #[], results_none Tryz.results23 _ _ _, ⟨_, rfl⟩, rfl, st'⟩
  · match t, hv with
    | 0, hv => cases hv; rfl
    | 1, hv => cases hv; rfl
    | t + 2, hv => cases hv
end Go.Proofs.YtgopaoidgcgalaaGreatDoor
/- package lines: Parse. -/
namespace Go.Proofs.YtgopaoidgcgalaaGreatDoor
set_option linter.all false
open Go.RowKit
section
variable {P : Program} {N : Frm} {w0 w : World} {K : Act → World → Prop} {e : Env} {R : List Piece} {H H' : List HP}
theorem XK.newChunk {p : HP} (hp : ∀ w, p.sat (fun _ => False) w) (h : XK N w0 K e R (p :: H)) : XK N w0 K e R H := fun a w hr st =>
  h a w hr (st.new (w' := w) (Below.refl _ _) (by
    rw [show (fresh w w).Z = fun _ => False from by funext b; simp only [fresh, eq_iff_iff, iff_false]; omega]
    exact hp w))
theorem res_cells2 {fn : Func} {t1 t2 s1 s2 b1 b2 n : Nat} {vs : List Value} {v2 : Value} (hr : fn.results = #[.cell t1 s1, .cell t2 s2]) (h1 : rowB P s1 n = true) (h2 : oneB P s2 = true) (hn : vs.length = n) (ht1 : e.get t1 = some (.pointer (some ⟨b1, 0, none⟩))) (ht2 : e.get t2 = some (.pointer (some ⟨b2, 0, none⟩)))
    (r1 : RdN w0 R H b1 0 vs) (r2 : Rd w0 R H b2 0 v2) (a : Act) (w : World) (hrp : Rep N e a) (st : St w0 R H w) : (results fn a.tmps).run P w = .ok (.tuple #[.agg vs.toArray, v2]) w := by
  have l1 := run_load_row (P := P) h1 hn (r1 w st)
  have l2 := run_load_one (P := P) h2 (r2 w st)
  have a1 := hrp.get t1 _ ht1
  have a2 := hrp.get t2 _ ht2
  simp only [Instr.loadAt, Instr.sureAddr, Sem.run_bind, Sem.run_pure, Result.andThen_ok] at l1 l2
  simp only [results, hr]
  simp [a1, a2, asAddr, l1, l2]
end
theorem ROc.go {w w' : World} {g o : Nat} {v : Value} (h : ROc w g o v) (hb : Below w.heap.size w w') : w'.cell? ⟨g, o, none⟩ = some v := (hb.cell (p := ⟨g, o, none⟩) h.1).trans h.2
theorem sls_new (w : World) (t : TypeId) (cs : List Value) (sz n : Nat) (hn : cs.length = n * sz) : SlS (fresh w (w.alloc (.cells cs.toArray t))) sz (some ⟨w.heap.size, 0, none⟩) n cs := by
  have hb := Blk.new w t cs.toArray
  exact SlS.of_blk (Y := (fresh w (w.alloc (.cells cs.toArray t))).Z) (w := w.alloc (.cells cs.toArray t)) (c := 0) (F := (fresh w (w.alloc (.cells cs.toArray t))).Z) ⟨⟨Nat.le_refl _, hb.lt⟩, hb⟩ (fun _ h => h) hn
theorem rows_zip {α β : Type} {R : α → List Value → Prop} {sz : Nat} (pr : β → α) (f : β → List Value) : ∀ l : List β, (∀ x ∈ l, (f x).length = sz ∧ R (pr x) (f x)) → Rows R sz (l.map pr) (l.map f)
  | [], _ => trivial
  | x :: l, h => ⟨(h x (by simp)).1, (h x (by simp)).2, rows_zip pr f l (fun y hy => h y (by simp [hy]))⟩
/-- a description that is built, read -/
theorem SocY.read {x : SocY} {s : Soc} (hx : x.of s) {q : Piece} (h : ∃ F, (HP.many [HP.emp, HP.own 55 6 (.slice x.A1 x.n1 x.c1) x.n1 x.L1, HP.own 69 3 (.slice x.A2 x.n2 x.c2) x.n2 x.L2, HP.own 71 1 (.slice x.A3 x.n3 x.c3) x.n3 x.L3, HP.own 51 6 (.slice x.A4 x.n4 x.c4) x.n4 x.L4, HP.many x.rg, HP.pic (picY x.cs x.ds) (picY_mono x.cs x.ds)]).sat F q.w ∧ ∀ b, F b → q.Z b) :
    RsR (slq q) (ClkR (slq q)) 55 6 x.A1 x.n1 s.clocks ∧ RsR (slq q) DomR 69 3 x.A2 x.n2 s.domains ∧ RsR (slq q) RstR 71 1 x.A3 x.n3 s.resets ∧ RsR (slq q) (DevR (slq q)) 51 6 x.A4 x.n4 s.devs := by
  obtain ⟨F, ⟨G, h1, h2, _⟩, hF⟩ := h
  obtain ⟨e1, e2, e3, e4, e5, e6, e7, e8, e9, e10, e11, e12, e13⟩ := hx
  have hq : ∀ i b, G i b → q.Z b := fun i b hb => hF b (h2 i b hb)
  have o1 := SlS.own ⟨G 1, h1 1 _ rfl, hq 1⟩
  have o2 := SlS.own ⟨G 2, h1 2 _ rfl, hq 2⟩
  have o3 := SlS.own ⟨G 3, h1 3 _ rfl, hq 3⟩
  have o4 := SlS.own ⟨G 4, h1 4 _ rfl, hq 4⟩
  have hp : picY x.cs x.ds q := picY_mono x.cs x.ds ⟨q.w, G 6⟩ q (fun b hb => ⟨hq 6 b hb, rfl⟩) (h1 6 _ rfl)
  obtain ⟨G5, g1, g2, _⟩ := h1 5 _ rfl
  refine ⟨⟨x.cs.map clkRow, ?_, ?_, ?_⟩, ⟨x.dm.map domCells, ?_, ?_, ?_⟩, ⟨x.rs.map fun r => [.int .i64 r], ?_, ?_, ?_⟩, ⟨x.ds.map devRow, ?_, ?_, ?_⟩⟩
  · rw [← e1]
    exact rows_zip _ _ _ fun y hy => ⟨rfl, _, _, _, rfl, rfl, hp.1 y hy⟩
  · rw [e5, ← e1]; simp
  · rw [← List.flatMap_def, ← e9]; exact o1
  · rw [← e2]
    conv => arg 3; rw [← List.map_id x.dm]
    exact rows_zip _ _ _ fun y hy => ⟨rfl, rfl⟩
  · rw [e6, e2]
  · rw [← List.flatMap_def, ← e10]; exact o2
  · rw [← e3]
    conv => arg 3; rw [← List.map_id x.rs]
    exact rows_zip _ _ _ fun y hy => ⟨rfl, rfl⟩
  · rw [e7, e3]
  · rw [e11] at o3
    have : (x.rs.map fun r => [Value.int .i64 r]).flatten = intCells x.rs := by
      rw [← List.flatMap_def]; simp [intCells, List.flatMap]
      induction x.rs with
      | nil => rfl
      | cons r l ih => simp [ih]
    rw [this]; exact o3
  · rw [← e4]
    refine rows_zip _ _ _ fun y hy => ⟨rfl, _, _, _, _, _, _, rfl, rfl, rfl, ?_, hp.2 y hy⟩
    obtain ⟨i, hi⟩ := List.getElem?_of_mem hy
    exact SlS.own ⟨G5 i, g1 i (regOwn y) (by rw [e13, List.getElem?_map, hi]; rfl), fun b hb => hq 5 b (g2 i b hb)⟩
  · rw [e8, ← e4]; simp
  · rw [← List.flatMap_def, ← e12]; exact o4
theorem socR_nil (S : SlP) (hS : ∀ t sz, S t sz none 0 []) : SocR S soc0 #[.slice none 0 0, .slice none 0 0, .slice none 0 0, .slice none 0 0] :=
  ⟨_, _, _, _, _, _, _, _, _, _, _, _, rfl, ⟨[], trivial, rfl, hS _ _⟩, ⟨[], trivial, rfl, hS _ _⟩, ⟨[], trivial, rfl, hS _ _⟩, ⟨[], trivial, rfl, hS _ _⟩⟩
/-- what Parse answers -/
def ParseOk (t : ByteArray) (w : World) : Ending → World → Prop := fun x w' => (∃ cs, x = .returned (.tuple #[.agg cs, .int .i64 (parseF t).1]) ∧ SocR (slq (fresh w w')) (parseF t).2 cs) ∧ Below w.heap.size w w'
theorem short0 : soc0.short := ⟨fun c hc => by simp [soc0] at hc, fun d hd => by simp [soc0] at hd⟩
theorem small_of {s : Soc} (h : s.few 8000) (hs : s.short) : s.small :=
  ⟨Nat.le_trans h.clocks (by omega), Nat.le_trans h.domains (by omega), Nat.le_trans h.resets (by omega), Nat.le_trans h.devs (by omega), fun c hc => Nat.le_trans (hs.1 c hc) (by omega), fun d hd => Nat.le_trans (hs.2 d hd) (by omega)⟩

theorem parse_ok (t : ByteArray) (mm : Int) (w : World) (hM : ROc w 0 0 (.int .i64 mm)) :
    Calls Tryz.prog 11 #[.string t] w (ParseOk t w) := by
  refine XK.enterD (vs := [.string t]) Tryz.func11 rfl Tryz.ntmps11 (by simp) ?_
  refine XK.seq ?_

  refine XK.region ?_
  refine xk_alloc (cs := [.slice none 0 0, .slice none 0 0, .slice none 0 0, .slice none 0 0]) (zeroB_of (by kernel_rfl)) (Nat.le_of_ble_eq_true rfl) fun g1 => ?_
  refine xk_alloc (cs := [.int .i64 0]) (zeroB_of (by kernel_rfl)) (Nat.le_of_ble_eq_true rfl) fun g2 => ?_
  refine XK.nilN ?_
  refine XK.seq ?_

  refine XK.region ?_
  refine xk_func (vf := []) (vc := [.pointer (some ⟨g1, 0, none⟩), .pointer (some ⟨g2, 0, none⟩)]) rfl rfl (Nat.le_of_ble_eq_true rfl) ?_
  refine xk_defer (f := 23) (fi := []) (ca := [.pointer (some ⟨g1, 0, none⟩), .pointer (some ⟨g2, 0, none⟩)]) rfl ?_
  refine XK.nilN ?_
  refine XK.seq ?_
  refine XK.seq ?_

  refine XK.region ?_
  refine xk_move rfl (Nat.le_of_ble_eq_true rfl) ?_
  refine xk_lenS (by kernel_rfl) rfl (Nat.le_of_ble_eq_true rfl) ?_
  refine xk_gtr rfl rfl (Nat.le_of_ble_eq_true rfl) ?_
  refine XK.nilN ?_
  refine XK.if_ rfl (fun hbig => ?_) (fun hbig => ?_)
  ·

    refine XK.region ?_
    refine xk_buildS (zs := []) (L := []) (zeroB_of (by kernel_rfl)) (by kernel_rfl) rfl (by simp [fillL, setN, Value.cells]; rfl) (Nat.le_of_ble_eq_true rfl) ?_
    refine xk_iface (T := 59) (by kernel_rfl) rfl (Nat.le_of_ble_eq_true rfl) ?_
    refine xk_panic rfl ?_
    (repeat (first | refine XK.thenP ?_ | refine XK.inP ?_))
    refine XK.leaveP (H' := [HP.blk g2 29 [.int .i64 2], HP.blk g1 28 [.slice none 0 0, .slice none 0 0, .slice none 0 0, .slice none 0 0]]) (by kernel_rfl) (fun w1 st => rec_catch st) fun a w1 hr st => ⟨_, res_cells2 (s1 := 28) (s2 := 29) rfl (by kernel_rfl) (by kernel_rfl) rfl rfl rfl (RdN.whole 1 rfl) (Rd.blk 0 rfl rfl) a w1 hr st, ?_⟩
    have hpf : parseF t = (2, soc0) := by unfold parseF; rw [show readF t = none from if_pos (by omega)]
    exact ⟨⟨_, by rw [hpf], by rw [hpf]; exact socR_nil _ fun _ _ => SlS.nil _ _⟩, st.below (by simp)⟩
  ·
    refine XK.skip ?_
    refine XK.norm ?_
    refine XK.seq ?_

    refine XK.region ?_
    refine xk_alloc (cs := [.slice none 0 0, .slice none 0 0, .slice none 0 0, .slice none 0 0]) (zeroB_of (by kernel_rfl)) (Nat.le_of_ble_eq_true rfl) fun g3 => ?_
    refine XK.nilN ?_
    refine XK.seq ?_
    have hts : t.size ≤ 8000 := by omega
    have hrd : readF t = contF soc0 t.data.toList := if_neg (by omega)
    refine XK.newChunk (p := HP.many []) (fun w => ⟨fun _ _ => False, fun i p h => by simp at h, fun _ _ h => h, fun _ _ _ _ h => h.elim⟩) ?_
    refine XK.weak [1, 0, 2, 3] rfl (by decide) (fun _ h => h) ?_
    refine XK.push ?_
    refine XK.nilrow 55 6 ?_
    refine XK.push ?_
    refine XK.nilrow 69 3 ?_
    refine XK.push ?_
    refine XK.nilrow 71 1 ?_
    refine XK.push ?_
    refine XK.nilrow 51 6 ?_
    refine XK.push ?_
    refine XK.newChunk (p := HP.many []) (fun w => ⟨fun _ _ => False, fun i p h => by simp at h, fun _ _ h => h, fun _ _ _ _ h => h.elim⟩) ?_
    refine XK.push ?_
    refine XK.newChunk (p := HP.pic (picY [] []) (picY_mono [] [])) (fun w => ⟨fun x hx => by simp at hx, fun x hx => by simp at hx⟩) ?_
    refine XK.push ?_
    simp only [List.nil_append, List.cons_append]
    refine XK.toEx 0 (f := fun X0 : {X0 : SocY // X0.of soc0} => X0.1.hp g3) ⟨⟨[], [], [], [], none, 0, 0, none, 0, 0, none, 0, 0, none, 0, 0, [], [], [], [], []⟩, ⟨rfl, rfl, rfl, rfl, rfl, rfl, rfl, rfl, rfl, rfl, rfl, rfl, rfl⟩⟩ rfl ?_
    dsimp only [List.set]
    refine XK.env [(0, .string (strOf t.data.toList)), (2, .pointer (some ⟨g1, 0, none⟩)), (3, .pointer (some ⟨g2, 0, none⟩)), (4, .pointer (some ⟨g3, 0, none⟩))] ⟨by rw [strOf_data]; rfl, rfl, rfl, rfl, trivial⟩ ?_
    refine XK.block ?_
    refine XK.loop (fun m e R H => ∃ (l : List UInt8) (s : Soc), l.length ≤ 8000 ∧ s.few (8000 - l.length) ∧ s.short ∧ readF t = contF s l ∧ m = l.length ∧ e = [(0, .string (strOf l)), (2, .pointer (some ⟨g1, 0, none⟩)), (3, .pointer (some ⟨g2, 0, none⟩)), (4, .pointer (some ⟨g3, 0, none⟩))] ∧ R = [all w] ∧ H = [SocH g3 s, HP.blk g2 29 [.int .i64 0], HP.blk g1 28 [.slice none 0 0, .slice none 0 0, .slice none 0 0, .slice none 0 0]]) t.data.toList.length ⟨t.data.toList, soc0, by simpa using hts, few0.le (Nat.zero_le _), short0, hrd, rfl, rfl, rfl, rfl⟩ fun m e R H hI => ?_
    obtain ⟨l, s, hl, hfew, hsh, hrd, rfl, rfl, rfl, rfl⟩ := hI
    refine XK.seq ?_
    refine XK.seq ?_

    refine XK.region ?_
    refine xk_move rfl (Nat.le_of_ble_eq_true rfl) ?_
    refine xk_neqStr (by kernel_rfl) rfl rfl (Nat.le_of_ble_eq_true rfl) ?_
    refine XK.nilN ?_
    refine XK.if_ rfl (fun hne => ?_) (fun hne => ?_)
    ·
      have hln : l ≠ [] := fun h0 => hne (by subst h0; rfl)
      have hct : Lib.cut (strOf l).data.toList (ByteArray.mk #[10]).data.toList = cutC 10 l := lib_cut 10 l
      refine XK.skip ?_
      refine XK.norm ?_
      refine XK.block ?_
      refine XK.seq ?_

      refine XK.region ?_
      refine xk_move rfl (Nat.le_of_ble_eq_true rfl) ?_
      refine xk_callR (f := 24) (fi := []) (ca := []) (by kernel_rfl) rfl rfl (Nat.le_of_ble_eq_true rfl) (v0 := .tuple #[.string (strOf (cutC 10 l).1), .string (strOf (cutC 10 l).2.1), .bool (cutC 10 l).2.2]) (fun w1 st => (Tryz.strings_Cut (strOf l) ⟨#[10]⟩ mm w1 (by rw [strOf_size]; omega) (hM.go (st.below (by simp)))).mono fun y w' h => ⟨by rw [h.1, hct]; rfl, by obtain ⟨k, rfl⟩ := h.2; exact Below.drewN w1 k⟩) ?_
      refine xk_move rfl (Nat.le_of_ble_eq_true rfl) ?_
      refine xk_extract rfl rfl (Nat.le_of_ble_eq_true rfl) ?_
      refine xk_extract rfl rfl (Nat.le_of_ble_eq_true rfl) ?_
      refine xk_extract rfl rfl (Nat.le_of_ble_eq_true rfl) ?_
      refine xk_assign rfl (Nat.le_of_ble_eq_true rfl) ?_
      refine xk_assign rfl (Nat.le_of_ble_eq_true rfl) ?_
      refine xk_assign rfl (Nat.le_of_ble_eq_true rfl) ?_
      refine XK.nilN ?_
      refine XK.seq ?_
      refine XK.seq ?_

      refine XK.region ?_
      refine xk_move rfl (Nat.le_of_ble_eq_true rfl) ?_
      refine xk_not rfl (Nat.le_of_ble_eq_true rfl) ?_
      refine XK.nilN ?_
      refine XK.cond rfl (fun hend => ?_) (fun hend => ?_)
      ·

        refine XK.region ?_
        refine xk_buildS (zs := []) (L := []) (zeroB_of (by kernel_rfl)) (by kernel_rfl) rfl (by simp [fillL, setN, Value.cells]; rfl) (Nat.le_of_ble_eq_true rfl) ?_
        refine xk_iface (T := 59) (by kernel_rfl) rfl (Nat.le_of_ble_eq_true rfl) ?_
        refine xk_panic rfl ?_
        (repeat (first | refine XK.thenP ?_ | refine XK.inP ?_))
        have hend : (cutC 10 l).2.2 = false := by simpa using hend
        refine XK.weak [1, 2] rfl (by decide) (fun _ h => h) ?_
        refine XK.leaveP (H' := [HP.blk g2 29 [.int .i64 2], HP.blk g1 28 [.slice none 0 0, .slice none 0 0, .slice none 0 0, .slice none 0 0]]) (by kernel_rfl) (fun w1 st => rec_catch st) fun a w1 hr st => ⟨_, res_cells2 (s1 := 28) (s2 := 29) rfl (by kernel_rfl) (by kernel_rfl) rfl rfl rfl (RdN.whole 1 rfl) (Rd.blk 0 rfl rfl) a w1 hr st, ?_⟩
        have hpf : parseF t = (2, soc0) := by unfold parseF; rw [hrd, contF_bad hln hend]
        exact ⟨⟨_, by rw [hpf], by rw [hpf]; exact socR_nil _ fun _ _ => SlS.nil _ _⟩, st.below (by simp)⟩
      ·
        refine XK.skip ?_
        refine XK.norm ?_
        refine XK.seq ?_

        refine XK.region ?_
        refine xk_move rfl (Nat.le_of_ble_eq_true rfl) ?_
        have hend : (cutC 10 l).2.2 = true := by simpa using hend
        rw [contF_line hln hend] at hrd
        have hcl := cutC_len 10 l hend
        have hsl := splitC_len 32 (cutC 10 l).1
        refine xk_call [] (f := 26) (fi := []) (ca := []) (by kernel_rfl) rfl rfl (Nat.le_of_ble_eq_true rfl) (by simp) (fun v w w' => ∃ A, v = .slice A (wordsF (cutC 10 l).1).length (wordsF (cutC 10 l).1).length ∧ SlS (fresh w w') 1 A (wordsF (cutC 10 l).1).length (strCells (wordsF (cutC 10 l).1))) (fun w1 st => (Tryz.strings_Split (strOf (cutC 10 l).1) ⟨#[32]⟩ mm w1 (by rw [strOf_size]; omega) (hM.go (st.below (by simp))) (by decide)).mono fun y w' h => by
          have hw := wordsB (strOf (cutC 10 l).1)
          have hk := Lib.splitB_all ⟨#[32]⟩ (by decide) 0 _ (strOf (cutC 10 l).1) rfl
          rw [hw] at hk
          rw [hw, ← hk] at h
          obtain ⟨rfl, rfl⟩ := h
          exact ⟨⟨_, rfl, _, rfl, sls_new w1 _ (strCells (wordsF (cutC 10 l).1)) 1 _ (by rw [strCells_len]; omega)⟩, ⟨rfl, rfl, rfl, by simp, fun k hk => Below.heap_alloc w1 _ k hk⟩⟩) ?_
        rintro _ w1 q1 ⟨Aw, rfl, hSw⟩ hq1 _ hF1
        have hSw := hSw.le hq1
        have hwl : (wordsF (cutC 10 l).1).length = (splitC 32 (cutC 10 l).1).length := by simp [wordsF]
        have hw1 : 1 ≤ (wordsF (cutC 10 l).1).length := by
          rw [hwl]
          cases hs : splitC 32 (cutC 10 l).1 with
          | nil => exact absurd hs (splitC_ne _ _)
          | cons x xs => simp
        refine xk_callT 0 (SocH g3 ((takeF s (wordsF (cutC 10 l).1)).getD s)) ((takeF s (wordsF (cutC 10 l).1)).isSome = true) (takeF s (wordsF (cutC 10 l).1) = none) (f := 25) (fi := []) (ca := []) (v := .tuple #[]) (by kernel_rfl) rfl rfl rfl (Nat.le_of_ble_eq_true rfl) (fun w1 F st hp hF hle => take_x g3 s (wordsF (cutC 10 l).1) Aw _ _ w1 F hp hF (hfew.le (by omega)) (hSw.le (hle q1 (by simp))) rfl hw1 (Nat.le_refl _) (by omega) (fun x hx => by
          obtain ⟨y, hy, rfl⟩ := List.mem_map.1 hx
          have := hsl.2 y hy
          rw [strOf_size]; omega)) (fun hp T u => by
          (repeat (first | refine XK.thenP ?_ | refine XK.inP ?_))
          dsimp only [List.set]
          refine XK.weak (R' := [all w]) [1, 2] rfl (by decide) (by simp) ?_
          refine XK.leaveP (H' := [HP.blk g2 29 [.int .i64 2], HP.blk g1 28 [.slice none 0 0, .slice none 0 0, .slice none 0 0, .slice none 0 0]]) (by kernel_rfl) (fun w1 st => rec_catch st) fun a w1 hr st => ⟨_, res_cells2 (s1 := 28) (s2 := 29) rfl (by kernel_rfl) (by kernel_rfl) rfl rfl rfl (RdN.whole 1 rfl) (Rd.blk 0 rfl rfl) a w1 hr st, ?_⟩
          have hpf : parseF t = (2, soc0) := by unfold parseF; rw [hrd, hp]; rw [show (none : Option Soc).bind (fun s' => contF s' (cutC 10 l).2.1) = none from rfl]
          exact ⟨⟨_, by rw [hpf], by rw [hpf]; exact socR_nil _ fun _ _ => SlS.nil _ _⟩, st.below (by simp)⟩) ?_
        dsimp only [List.set]
        intro hsome
        obtain ⟨s', hs'⟩ := Option.isSome_iff_exists.1 hsome
        rw [hs', Option.bind_some] at hrd
        rw [hs', Option.getD_some]
        refine XK.nilN ?_

        refine XK.region ?_
        refine xk_move rfl (Nat.le_of_ble_eq_true rfl) ?_
        refine xk_assign rfl (Nat.le_of_ble_eq_true rfl) ?_
        refine XK.nilN ?_
        exact XK.weakR (R' := [all w]) (by simp) (XK.envS [(0, .string (strOf (cutC 10 l).2.1)), (2, .pointer (some ⟨g1, 0, none⟩)), (3, .pointer (some ⟨g2, 0, none⟩)), (4, .pointer (some ⟨g3, 0, none⟩))] (XK.round _ (by omega) ⟨(cutC 10 l).2.1, s', by omega, (takeF_few hs' hfew).le (by omega), takeF_short hs' (by omega) hsh, hrd, rfl, rfl, rfl, rfl⟩))
    ·
      refine XK.exit ?_
      refine XK.norm ?_
      refine XK.seq ?_
      refine XK.seq ?_
      have hl0 : l = [] := by
        have h0 : strOf l = ⟨#[]⟩ := Classical.not_not.1 hne
        have h1 := congrArg (fun b : ByteArray => b.data.toList) h0
        simpa [strOf] using h1
      subst hl0
      rw [contF_nil] at hrd
      have hsm := small_of (hfew.le (by omega)) hsh
      refine XK.openEx 0 rfl ?_
      rintro ⟨⟨cs, dm, rs, ds, A1, n1, c1, A2, n2, c2, A3, n3, c3, A4, n4, c4, L1, L2, L3, L4, rg⟩, hx⟩
      dsimp only [List.set, SocY.hp]
      refine XK.take 0 0 rfl rfl ?_
      dsimp only [List.set]
      refine XK.still [] [1] [0, 2, 3] (by simp) rfl (by decide) (by decide) fun q hq _ hfr => ?_
      have hfr := hfr (by simp) (by simp)
      obtain ⟨r1, r2, r3, r4⟩ := SocY.read hx (hq 1 _ (by simp) rfl)
      dsimp only at r1 r2 r3 r4
      clear hq

      refine XK.region ?_
      refine xk_loadN 4 (by kernel_rfl) rfl (by first | assumption | exact RdN.whole 0 rfl | exact RdN.whole 1 rfl | exact RdN.whole 2 rfl | exact RdN.whole 3 rfl | exact RdN.whole 4 rfl | exact RdN.whole 5 rfl | exact RdN.whole 6 rfl | exact RdN.whole 7 rfl | exact RdN.whole 8 rfl | exact RdN.roc (by simp) (by assumption)) rfl (Nat.le_of_ble_eq_true rfl) ?_
      refine xk_callR (f := 22) (fi := []) (ca := []) (by kernel_rfl) rfl rfl (Nat.le_of_ble_eq_true rfl) (fun w1 st => checkS_any s A1 A2 A3 A4 n1 c1 n2 c2 n3 c3 n4 c4 w1 (by
        have hl := slq_le (st.le (p := q) (by simp))
        exact ⟨r1.mono hl (fun _ _ => ClkR.mono hl), r2.mono hl (fun _ _ h => h), r3.mono hl (fun _ _ h => h), r4.mono hl (fun _ _ => DevR.mono hl), hsm⟩)) ?_
      refine xk_assign rfl (Nat.le_of_ble_eq_true rfl) ?_
      refine XK.nilN ?_
      refine XK.seq ?_

      refine XK.region ?_
      refine xk_move rfl (Nat.le_of_ble_eq_true rfl) ?_
      refine xk_neq rfl rfl (Nat.le_of_ble_eq_true rfl) ?_
      refine XK.nilN ?_
      refine XK.if_ rfl (fun hck => ?_) (fun hck => ?_)
      ·
        refine XK.seq ?_

        refine XK.region ?_
        refine xk_buildS (zs := [.slice none 0 0, .slice none 0 0, .slice none 0 0, .slice none 0 0]) (L := [(0, 1), (1, 1), (2, 1), (3, 1)]) (zeroB_of (by kernel_rfl)) (by kernel_rfl) rfl (by simp [fillL, setN, Value.cells]; rfl) (Nat.le_of_ble_eq_true rfl) ?_
        refine xk_move rfl (Nat.le_of_ble_eq_true rfl) ?_
        (first | (refine xk_storeN 0 rfl rfl rfl (by kernel_rfl) (by simp [Value.cells, Value.oneCell']) (by simp [Value.cells]) ?_) | (refine xk_storeN 1 rfl rfl rfl (by kernel_rfl) (by simp [Value.cells, Value.oneCell']) (by simp [Value.cells]) ?_) | (refine xk_storeN 2 rfl rfl rfl (by kernel_rfl) (by simp [Value.cells, Value.oneCell']) (by simp [Value.cells]) ?_) | (refine xk_storeN 3 rfl rfl rfl (by kernel_rfl) (by simp [Value.cells, Value.oneCell']) (by simp [Value.cells]) ?_) | (refine xk_storeN 4 rfl rfl rfl (by kernel_rfl) (by simp [Value.cells, Value.oneCell']) (by simp [Value.cells]) ?_) | (refine xk_storeN 5 rfl rfl rfl (by kernel_rfl) (by simp [Value.cells, Value.oneCell']) (by simp [Value.cells]) ?_) | (refine xk_storeN 6 rfl rfl rfl (by kernel_rfl) (by simp [Value.cells, Value.oneCell']) (by simp [Value.cells]) ?_) | (refine xk_storeN 7 rfl rfl rfl (by kernel_rfl) (by simp [Value.cells, Value.oneCell']) (by simp [Value.cells]) ?_) | (refine xk_storeN 8 rfl rfl rfl (by kernel_rfl) (by simp [Value.cells, Value.oneCell']) (by simp [Value.cells]) ?_)); simp only [putN, Value.cells, List.set, List.take, List.drop, List.nil_append, List.append_nil, List.length_cons, List.length_nil, List.cons_append, Nat.reduceAdd]
        refine xk_st rfl rfl ?_; dsimp only [List.set]
        refine XK.nilN ?_
        refine XK.ret ?_
        refine XK.norm ?_
        refine XK.leaveR (H' := [HP.blk g3 28 [.slice A1 n1 c1, .slice A2 n2 c2, .slice A3 n3 c3, .slice A4 n4 c4], HP.blk g2 29 [.int .i64 (checkS s)], HP.blk g1 28 [.slice none 0 0, .slice none 0 0, .slice none 0 0, .slice none 0 0]]) (by kernel_rfl) (fun w1 st => (rec_idle g1 g2 w1).mono fun y u' w' h => by obtain ⟨h1, h2, rfl⟩ := h; exact ⟨⟨_, h1⟩, h2, st⟩) fun a w1 hr st => ⟨_, res_cells2 (s1 := 28) (s2 := 29) rfl (by kernel_rfl) (by kernel_rfl) rfl rfl rfl (RdN.whole 2 rfl) (Rd.blk 1 rfl rfl) a w1 hr st, ?_⟩
        have hpf : parseF t = (checkS s, soc0) := by unfold parseF; rw [hrd]; exact if_neg hck
        exact ⟨⟨_, by rw [hpf], by rw [hpf]; exact socR_nil _ fun _ _ => SlS.nil _ _⟩, st.below (by simp)⟩
      ·
        refine XK.skip ?_
        refine XK.norm ?_
        refine XK.seq ?_

        refine XK.region ?_
        refine xk_loadN 4 (by kernel_rfl) rfl (by first | assumption | exact RdN.whole 0 rfl | exact RdN.whole 1 rfl | exact RdN.whole 2 rfl | exact RdN.whole 3 rfl | exact RdN.whole 4 rfl | exact RdN.whole 5 rfl | exact RdN.whole 6 rfl | exact RdN.whole 7 rfl | exact RdN.whole 8 rfl | exact RdN.roc (by simp) (by assumption)) rfl (Nat.le_of_ble_eq_true rfl) ?_
        (first | (refine xk_storeN 0 rfl rfl rfl (by kernel_rfl) (by simp [Value.cells, Value.oneCell']) (by simp [Value.cells]) ?_) | (refine xk_storeN 1 rfl rfl rfl (by kernel_rfl) (by simp [Value.cells, Value.oneCell']) (by simp [Value.cells]) ?_) | (refine xk_storeN 2 rfl rfl rfl (by kernel_rfl) (by simp [Value.cells, Value.oneCell']) (by simp [Value.cells]) ?_) | (refine xk_storeN 3 rfl rfl rfl (by kernel_rfl) (by simp [Value.cells, Value.oneCell']) (by simp [Value.cells]) ?_) | (refine xk_storeN 4 rfl rfl rfl (by kernel_rfl) (by simp [Value.cells, Value.oneCell']) (by simp [Value.cells]) ?_) | (refine xk_storeN 5 rfl rfl rfl (by kernel_rfl) (by simp [Value.cells, Value.oneCell']) (by simp [Value.cells]) ?_) | (refine xk_storeN 6 rfl rfl rfl (by kernel_rfl) (by simp [Value.cells, Value.oneCell']) (by simp [Value.cells]) ?_) | (refine xk_storeN 7 rfl rfl rfl (by kernel_rfl) (by simp [Value.cells, Value.oneCell']) (by simp [Value.cells]) ?_) | (refine xk_storeN 8 rfl rfl rfl (by kernel_rfl) (by simp [Value.cells, Value.oneCell']) (by simp [Value.cells]) ?_)); simp only [putN, Value.cells, List.set, List.take, List.drop, List.nil_append, List.append_nil, List.length_cons, List.length_nil, List.cons_append, Nat.reduceAdd]
        refine xk_st rfl rfl ?_; dsimp only [List.set]
        refine XK.nilN ?_
        refine XK.ret ?_
        refine XK.norm ?_
        refine XK.leaveR (H' := [HP.blk g3 28 [.slice A1 n1 c1, .slice A2 n2 c2, .slice A3 n3 c3, .slice A4 n4 c4], HP.blk g2 29 [.int .i64 0], HP.blk g1 28 [.slice A1 n1 c1, .slice A2 n2 c2, .slice A3 n3 c3, .slice A4 n4 c4]]) (by kernel_rfl) (fun w1 st => (rec_idle g1 g2 w1).mono fun y u' w' h => by obtain ⟨h1, h2, rfl⟩ := h; exact ⟨⟨_, h1⟩, h2, st⟩) fun a w1 hr st => ⟨_, res_cells2 (s1 := 28) (s2 := 29) rfl (by kernel_rfl) (by kernel_rfl) rfl rfl rfl (RdN.whole 2 rfl) (Rd.blk 1 rfl rfl) a w1 hr st, ?_⟩
        have hpf : parseF t = (0, s) := by unfold parseF; rw [hrd]; exact if_pos (Classical.not_not.1 hck)
        exact ⟨⟨_, by rw [hpf], by rw [hpf]; exact (by
          have hl := slq_le (st.fresh_le (p := q) (by simp) hfr)
          exact ⟨_, _, _, _, _, _, _, _, _, _, _, _, rfl, r1.mono hl (fun _ _ => ClkR.mono hl), r2.mono hl (fun _ _ h => h), r3.mono hl (fun _ _ h => h), r4.mono hl (fun _ _ => DevR.mono hl)⟩)⟩, st.below (by simp)⟩

end Go.Proofs.YtgopaoidgcgalaaGreatDoor
/- Chips and their texts: what the laws of chapter 5 need, in plain words. -/
namespace Go.Proofs.YtgopaoidgcgalaaGreatDoor
set_option linter.all false
open Go.RowKit
theorem firstE_zero {es : List Int} (h : firstE es = 0) : ∀ e ∈ es, e = 0 := by
  intro e he
  refine Classical.byContradiction fun hne => ?_
  unfold firstE at h
  cases hf : es.find? (fun e => decide (e ≠ 0)) with
  | none =>
    have := List.find?_eq_none.1 hf e he
    simp [hne] at this
  | some x =>
    have h1 := List.find?_some hf
    rw [hf] at h
    simp at h h1
    exact h1 h
theorem whenE_zero {b : Bool} {e : Int} (he : e ≠ 0) (h : whenE b e = 0) : b = false := by
  unfold whenE at h
  cases b
  · rfl
  · exact absurd h he
/-- what conf.Check has looked at -/
structure Soc.okB (s : Soc) : Prop where
  nc : s.clocks.length ≤ 12
  nd : s.domains.length ≤ 6
  nr : s.resets.length ≤ 6
  nv : s.devs.length ≤ 6
  src : ∀ c ∈ s.clocks, c.src.length ≤ 4
  devs : ∀ d ∈ s.devs, d.regs.length ≤ 8 ∧ d.needs.length ≤ 6
theorem full_zero {s : Soc} (h : fullE s = 0) : s.clocks.length ≤ 12 ∧ s.domains.length ≤ 6 ∧ s.resets.length ≤ 6 ∧ s.devs.length ≤ 6 ∧ ∀ d ∈ s.devs, d.regs.length ≤ 8 ∧ d.needs.length ≤ 6 := by
  unfold fullE at h
  split at h
  · cases h
  · rename_i hn
    refine ⟨by omega, by omega, by omega, by omega, fun d hd => ?_⟩
    have h1 := firstE_zero h (manyE d) (List.mem_map.2 ⟨d, hd, rfl⟩)
    have h2 := whenE_zero (by decide) h1
    rw [Bool.or_eq_false_iff] at h2
    have h3 := of_decide_eq_false h2.1
    have h4 := of_decide_eq_false h2.2
    omega
theorem check_ok {s : Soc} (h : checkS s = 0) : s.okB := by
  have hz := firstE_zero h
  obtain ⟨h1, h2, h3, h4, h5⟩ := full_zero (hz (fullE s) (by simp [checkL]))
  refine ⟨h1, h2, h3, h4, fun c hc => ?_, h5⟩
  have hc1 := firstE_zero (hz (firstE (s.clocks.map (clockE s.clocks.length))) (by simp [checkL])) _ (List.mem_map.2 ⟨c, hc, rfl⟩)
  have hc2 := whenE_zero (by decide) (firstE_zero hc1 (whenE (!shapeB c.kind c.src.length) 1) (by simp))
  unfold shapeB at hc2
  simp only [Bool.not_eq_false'] at hc2
  split at hc2
  · have := of_decide_eq_true hc2; omega
  · split at hc2
    · have := of_decide_eq_true hc2; omega
    · split at hc2
      · unfold withinB at hc2
        rw [Bool.and_eq_true] at hc2
        have := of_decide_eq_true hc2.2
        omega
      · cases hc2
/-! ### chips that texts can say -/
section
variable {s : Soc} (h : s.made)
include h
end
/-! ### how long they are -/
theorem dd_len64 {n : Nat} (h : n < 18446744073709551616) : (Lib.decDigits n).length ≤ 20 := dd_len 19 n (by omega)
theorem numW_len {n : Int} (h1 : -9223372036854775808 ≤ n) (h2 : n < 18446744073709551616) : (numW n).length ≤ 20 := by
  unfold numW Lib.itoa
  split
  · have := dd_len 18 n.natAbs (by omega)
    simp; omega
  · exact dd_len64 (by omega)
theorem joinW_app : ∀ (ws : List (List UInt8)) (b : Nat), (∀ w ∈ ws, w.length ≤ b) → (joinW ws).length ≤ ws.length * (b + 1)
  | [], _, _ => Nat.zero_le _
  | [w], b, h => by have := h w (by simp); simp [joinW]; omega
  | w :: x :: ws, b, h => by
    have h1 := h w (by simp)
    have h2 := joinW_app (x :: ws) b (fun y hy => h y (by simp [hy]))
    simp only [joinW, List.length_append, List.length_cons] at h2 ⊢
    rw [Nat.succ_mul] 
    omega
theorem keptW_len (b : Bool) : (keptW b).length = 4 := by cases b <;> rfl
theorem item_len {i : Item} {n : Nat} (hn : i.words.length ≤ n) (hw : ∀ w ∈ i.words, w.length ≤ 20) : itemL i ≤ 21 * n + 1 := by
  have := joinW_app i.words 20 hw
  unfold itemL Item.line
  have h2 : i.words.length * 21 ≤ n * 21 := Nat.mul_le_mul_right 21 hn
  omega
theorem i64_w {n : Int} (h : isI64 n) : (numW n).length ≤ 20 := numW_len h.1 (by have := h.2; omega)
theorem items_le {α : Type} (f : α → Item) (b : Nat) : ∀ l : List α, (∀ x ∈ l, itemL (f x) ≤ b) → itemsL (l.map f) ≤ l.length * b
  | [], _ => Nat.zero_le _
  | x :: l, h => by
    have h1 := h x (by simp)
    have h2 := items_le f b l (fun y hy => h y (by simp [hy]))
    rw [List.map_cons, itemsL_cons, List.length_cons, Nat.succ_mul]
    omega
theorem devs_le (b : Nat) : ∀ l : List Dev, (∀ d ∈ l, itemsL d.items ≤ b) → devsL l ≤ l.length * b
  | [], _ => Nat.zero_le _
  | d :: l, h => by
    have h1 := h d (by simp)
    have h2 := devs_le b l (fun y hy => h y (by simp [hy]))
    rw [show d :: l = [d] ++ l from rfl, devsL_app, List.length_append, List.length_singleton, Nat.add_mul, Nat.one_mul]
    have : devsL [d] = itemsL d.items := by simp [devsL]
    omega
theorem mul_mono {a b c : Nat} (h : a ≤ b) : a * c ≤ b * c := Nat.mul_le_mul_right c h
theorem print_len {s : Soc} (h : s.okB) (h64 : s.in64) : (printF s).length ≤ 6700 := by
  rw [printF, itemsT_len, show itemsL s.items = socL s from rfl, socL_eq]
  have hc : itemsL (s.clocks.map .clk) ≤ 12 * 190 := by
    refine Nat.le_trans (items_le _ 190 _ fun c hc => ?_) (mul_mono h.nc)
    obtain ⟨h1, h2, h3, h4, h5, h6⟩ := h64.clocks c hc
    have hl := (clkW_len c).2
    have hs := h.src c hc
    refine Nat.le_trans (item_len (n := 9) (by show (clkW c).length ≤ 9; omega) fun w hw => ?_) (by omega)
    simp only [Item.words, clkW, List.mem_cons, List.mem_map] at hw
    rcases hw with rfl | rfl | ⟨x, hx, rfl⟩
    · decide
    · simp
    · unfold Clk.nums at hx
      rcases List.mem_append.1 hx with hx | hx
      · exact i64_w (h1 x hx)
      · split at hx
        · simp at hx; subst hx; exact numW_len (by omega) h3.2
        · split at hx
          · simp at hx
            rcases hx with rfl | rfl | rfl
            · exact i64_w h4
            · exact i64_w h5
            · exact i64_w h6
          · split at hx
            · simp at hx; subst hx; exact i64_w h5
            · cases hx
  have hd : itemsL (s.domains.map .dom) ≤ 6 * 85 := by
    refine Nat.le_trans (items_le _ 85 _ fun c hc => ?_) (mul_mono h.nd)
    obtain ⟨h1, h2⟩ := h64.domains c hc
    refine Nat.le_trans (item_len (n := 4) (by simp [Item.words, domW]) fun w hw => ?_) (by omega)
    simp only [Item.words, domW, List.mem_cons, List.not_mem_nil, or_false] at hw
    rcases hw with rfl | rfl | rfl | rfl
    · decide
    · unfold aboveW; split
      · simp
      · exact i64_w h1
    · exact i64_w h2
    · rw [keptW_len]; omega
  have hr : itemsL (s.resets.map .res) ≤ 6 * 43 := by
    refine Nat.le_trans (items_le _ 43 _ fun c hc => ?_) (mul_mono h.nr)
    have h1 := h64.resets c hc
    refine Nat.le_trans (item_len (n := 2) (by simp [Item.words, resW]) fun w hw => ?_) (by omega)
    simp only [Item.words, resW, List.mem_cons, List.not_mem_nil, or_false] at hw
    rcases hw with rfl | rfl
    · decide
    · exact i64_w h1
  have hv : devsL s.devs ≤ 6 * 600 := by
    refine Nat.le_trans (devs_le 600 _ fun d hd => ?_) (mul_mono h.nv)
    obtain ⟨h1, h2, h3, h4, h5, h6⟩ := h64.devs d hd
    obtain ⟨g1, g2⟩ := h.devs d hd
    have e1 : itemL (.dev d.bare) ≤ 232 := by
      refine Nat.le_trans (item_len (n := 11) (by simp [Item.words, devW, Dev.bare]; omega) fun w hw => ?_) (by omega)
      simp only [Item.words, devW, Dev.bare, List.mem_cons, List.mem_map] at hw
      rcases hw with rfl | rfl | rfl | rfl | rfl | ⟨x, hx, rfl⟩
      · decide
      · exact i64_w h1
      · exact i64_w h2
      · exact i64_w h3
      · exact numW_len (by omega) (by omega)
      · exact i64_w (h5 x hx)
    have e2 : itemsL (d.regs.map .reg) ≤ 8 * 46 := by
      refine Nat.le_trans (items_le _ 46 _ fun r hr => ?_) (mul_mono g1)
      obtain ⟨k1, k2⟩ := h6 r hr
      have hj : itemL (.reg r) ≤ 46 := by
        unfold itemL Item.line
        have hnum : (numW r.reset).length ≤ 20 := numW_len (by omega) (by omega)
        simp only [Item.words, rgW, joinW, List.length_append, List.length_cons, keptW_len]
        have : kwG.length = 3 := rfl
        omega
      exact hj
    rw [Dev.items, itemsL_cons]
    omega
  omega
/-! ### a text is read as it was printed -/
end Go.Proofs.YtgopaoidgcgalaaGreatDoor
