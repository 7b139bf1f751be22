/- Events, as they lie in memory; what an audit counts and finds of them, in plain words; dead and each, walked. -/
import Derived.Test.YtbgibbbggajgaaaRange
namespace Go.Proofs.Ytbgibbbggajgaaa
set_option linter.all false
open Go.RowKit Go.Shelf
attribute [local go_sem] Oper.semAt_some

/-- an event: its cells, one by one; wA, wc: the slice of its words ws -/
structure Ev where
  kind : Int
  task : Int
  ck : Int
  dev : Int
  reg : Int
  cv : Int
  err : Int
  rv : Int
  aid : Int
  adev : Int
  adead : Bool
  av : Int
  alive : Bool
  wA : Option Addr
  wc : Nat
  ws : List Int
def Ev.cells (e : Ev) : List Value :=
  [.int .u8 e.kind, .int .i64 e.task, .int .u8 e.ck, .int .i64 e.dev, .int .i64 e.reg, .int .u32 e.cv, .int .i64 e.err, .int .u32 e.rv, .int .i64 e.aid, .int .i64 e.adev, .bool e.adead, .int .u32 e.av, .bool e.alive, .slice e.wA e.ws.length e.wc]
theorem Ev.cells_len (e : Ev) : e.cells.length = 14 := rfl
/-- the event at a place -/
def EvAt (w : World) (b o : Nat) (e : Ev) : Prop := ∀ f u, e.cells[f]? = some u → w.cell? ⟨b, o + f, none⟩ = some u
def isDead (e : Ev) : Bool := e.kind == 100 && (e.adead || !e.alive)

set_option maxHeartbeats 400000 in
theorem dead_any (b o : Nat) (e : Ev) (w : World) (h : EvAt w b o e) :
    Calls Try.prog 40 #[.pointer (some ⟨b, o, none⟩)] w fun x w' => x = .returned (.bool (isDead e)) ∧ w = w' := by
  have h0 := h 0 _ rfl
  have h10 := h 10 _ rfl
  have h12 := h 12 _ rfl
  simp only [Nat.add_zero] at h0
  unfold isDead
  by_cases hk : e.kind = 100
  · have hk' : (e.kind == 100) = true := by simpa using hk
    clear hk
    by_cases hd : e.adead = true
    · go_enter Try.func40, Try.ntmps40
      go_wp2
      go_ret
      simp [*]
    · go_enter Try.func40, Try.ntmps40
      go_wp2
      go_ret
      simp [*]
  · have hk' : (e.kind == 100) = false := by simpa using hk
    clear hk
    go_enter Try.func40, Try.ntmps40
    go_wp2
    go_ret
    simp [*]

/-- words as cells -/
def u32Cells (zs : List Int) : List Value := zs.map (Value.int .u32)
def EvWs (w : World) (B : Nat) (e : Ev) : Prop := Sl w B 1 e.wA e.ws.length (u32Cells e.ws)
/-- events in memory: a slice of 14 cells an element; their words -/
def Evs (w : World) (B : Nat) (A : Option Addr) (evs : List Ev) : Prop := Sl w B 14 A evs.length (evs.flatMap Ev.cells) ∧ ∀ e ∈ evs, EvWs w B e
theorem Evs.at_ {w : World} {B : Nat} {A : Option Addr} {evs : List Ev} (h : Evs w B A evs) {k : Nat} {e : Ev} (hk : evs[k]? = some e) :
    ∃ b off, A = some ⟨b, off, none⟩ ∧ b < B ∧ EvAt w b (off + k * 14) e := by
  have hlt : k < evs.length := by
    rcases Nat.lt_or_ge k evs.length with h | h
    · exact h
    · rw [List.getElem?_eq_none h] at hk; cases hk
  obtain ⟨b, off, hA, hb, hc⟩ := Sl.at_ h.1 hlt
  refine ⟨b, off, hA, hb, fun f u hu => ?_⟩
  have hf : f < 14 := by
    rcases Nat.lt_or_ge f 14 with h | h
    · exact h
    · rw [List.getElem?_eq_none (by rw [Ev.cells_len]; exact h)] at hu; cases hu
  exact hc f u (by rw [flat_get Ev.cells 14 evs (fun _ _ => rfl) k f e hk hf]; exact hu)
theorem Evs.below {w w' : World} {B : Nat} {A : Option Addr} {evs : List Ev} (h : Evs w B A evs) (hb : Below B w w') : Evs w' B A evs := ⟨h.1.below hb, fun e he => (h.2 e he).below hb⟩
theorem Evs.thn {w w' : World} {A : Option Addr} {evs : List Ev} (h : Evs w w.heap.size A evs) (hb : Below w.heap.size w w') : Evs w' w'.heap.size A evs := ⟨h.1.thn hb, fun e he => (h.2 e he).thn hb⟩

/-- the first k places -/
def ixs (n k : Nat) : List (Fin n) := (List.finRange n).take k
theorem ixs_succ {n k : Nat} (h : k < n) : ixs n (k + 1) = ixs n k ++ [⟨k, h⟩] := by
  unfold ixs
  rw [List.take_succ_eq_append_getElem (by simpa using h)]
  simp
theorem ixs_length {n k : Nat} (h : k ≤ n) : (ixs n k).length = k := by simp [ixs, h]
theorem ixs_all (n : Nat) : ixs n n = List.finRange n := List.take_of_length_le (by simp)

/-- what yield is handed at a place: the place, and where the event lies -/
def evEnc (b off n : Nat) (x : Fin n) : Array Value := #[.int .i64 (x.1 : Int), .pointer (some ⟨b, off + x.1 * 14, none⟩)]

set_option maxRecDepth 100000 in
set_option maxHeartbeats 2000000 in
theorem each1_in (l Bs n₀ B₁ B₂ B₃ b off len cap : Nat) (hlen : len ≤ 9223372036854775807) (J Jx : List (Fin len) → World → Prop)
    (hY : ∀ pre x W, J pre W → pre.length < len → YieldAt Fence.wide 9 Try.prog l (evEnc b off len x) W fun e W' =>
      (e = .returned (.bool true) ∧ J (pre ++ [x]) W' ∧ Keeps n₀ B₁ B₂ W W') ∨ (e = .returned (.bool false) ∧ Jx (pre ++ [x]) W' ∧ KeepsFrom B₃ W W'))
    (W : World) (hBs : Blk W Bs 22 #[.slice (some ⟨b, off, none⟩) len cap]) (hB : B₁ ≤ Bs) (h0 : J [] W) :
    CallsIn Fence.wide 9 Try.prog 63 #[.func (.yield l) #[] #[], .pointer (some ⟨Bs, 0, none⟩)] W fun e W' => (∃ v, e = .returned v) ∧
      ((∃ ys, ys = List.finRange len ∧ J ys W') ∨ (∃ pre, (∃ k, k < len ∧ pre = ixs len (k + 1)) ∧ Jx pre W')) := by
  refine callsIn_of_wp Try.func63 rfl trivial ?_ rfl
  simp only [Try.ntmps63, List.size_toArray, List.length_cons, List.length_nil, Nat.reduceAdd, Nat.reduceSub, Array.replicate_succ, Array.replicate_zero, List.push_toArray, List.append_toArray, List.nil_append, List.cons_append]
  have hc0 := hBs.cell 0
  simp at hc0
  gi_wp2
  gi_loopw [6] (fun i wr => ∃ k : Nat, k ≤ len ∧ i = .int .i64 k ∧ J (ixs len k) wr ∧ Keeps n₀ B₁ B₂ W wr)
    (fun i _ => len - (intOf i).toNat)
  case atStart => exact ⟨0, Nat.zero_le _, rfl, h0, Keeps.refl _ _ _ _⟩
  case round =>
    clear hc0
    obtain ⟨k, hk, rfl, hJs, hnx⟩ := hrel
    by_cases hlt : k < len
    · obtain ⟨fn, tmps, assign, body, hy, hR⟩ := hY _ ⟨k, hlt⟩ wr hJs (by rw [ixs_length hk]; exact hlt)
      unfold evEnc at hy
      dsimp only at hy
      have hBr := (hBs.keeps hnx hB).cell 0
      simp at hBr
      gi_wp2
      refine (round_deep hR).mono ?_
      rintro e W3 (⟨rfl, hJ3, hk3⟩ | ⟨rfl, hJx3, _⟩)
      · gi_wp2
        go_roundw
        case rel => exact ⟨k + 1, by omega, by simp, by rw [ixs_succ hlt]; exact hJ3, hnx.trans hk3⟩
        case measure => simp [intOf]; omega
      · gi_wp2
        refine bodyPost_ret (results_none rfl _ _ _) rfl ?_
        exact ⟨⟨_, rfl⟩, .inr ⟨_, ⟨k, hlt, (ixs_succ hlt).symm⟩, hJx3⟩⟩
    · obtain rfl : k = len := by omega
      gi_wp2
      go_end0
      exact ⟨⟨_, rfl⟩, .inl ⟨_, rfl, by rw [← ixs_all]; exact hJs⟩⟩

set_option maxRecDepth 100000 in
set_option maxHeartbeats 1000000 in
theorem each1_nil_in (l Bs : Nat) (A : Option Addr) (cap : Nat) (J : List (Fin 0) → World → Prop) (W : World) (hBs : Blk W Bs 22 #[.slice A 0 cap]) (h0 : J [] W) :
    CallsIn Fence.wide 9 Try.prog 63 #[.func (.yield l) #[] #[], .pointer (some ⟨Bs, 0, none⟩)] W fun e W' => (∃ v, e = .returned v) ∧ J [] W' := by
  refine callsIn_of_wp Try.func63 rfl trivial ?_ rfl
  simp only [Try.ntmps63, List.size_toArray, List.length_cons, List.length_nil, Nat.reduceAdd, Nat.reduceSub, Array.replicate_succ, Array.replicate_zero, List.push_toArray, List.append_toArray, List.nil_append, List.cons_append]
  have hc0 := hBs.cell 0
  simp at hc0
  gi_wp2
  gi_loopw [6] (fun i wr => i = .int .i64 0 ∧ J [] wr) (fun _ _ => 0)
  case atStart => exact ⟨rfl, h0⟩
  case round =>
    obtain ⟨rfl, hJs⟩ := hrel
    gi_wp2
    go_end0
    exact ⟨⟨_, rfl⟩, hJs⟩

theorem each_stops (Bs n₀ B₁ B₂ B₃ b off n cap : Nat) (A : Option Addr) (hA : 0 < n → A = some ⟨b, off, none⟩) (hn : n ≤ 9223372036854775807)
    (w : World) (hB : B₁ ≤ Bs) (hc : Blk w Bs 22 #[.slice A n cap]) :
    Seq Try.prog 63 #[.pointer (some ⟨Bs, 0, none⟩)] (evEnc b off n) (Keeps n₀ B₁ B₂) B₃ (fun ys => ys = List.finRange n) (fun pre => ∃ k, k < n ∧ pre = ixs n (k + 1)) n w := fun l J Jx W hW _ _ _ hY h0 => by
  have hc' := hc.below hW hc.lt
  rcases Nat.eq_zero_or_pos n with rfl | hpos
  · exact (each1_nil_in l Bs A cap J W hc' h0).mono fun e W' ⟨he, hj⟩ => ⟨he, .inl ⟨_, rfl, hj⟩⟩
  · rw [hA hpos] at hc'
    exact each1_in l Bs n₀ B₁ B₂ B₃ b off n cap hn J Jx hY W hc' hB h0

set_option maxHeartbeats 1000000 in
theorem each_any (A : Option Addr) (n cap : Nat) (w : World) :
    Calls Try.prog 39 #[.slice A n cap] w fun e w' => e = .returned (.func (.func 63) #[] #[.pointer (some ⟨w.heap.size, 0, none⟩)]) ∧ w' = w.alloc (.cells #[.slice A n cap] 22) := by
  go_enter Try.func39, Try.ntmps39
  go_wp2
  go_ret
  exact ⟨rfl, rfl⟩
end Go.Proofs.Ytbgibbbggajgaaa
