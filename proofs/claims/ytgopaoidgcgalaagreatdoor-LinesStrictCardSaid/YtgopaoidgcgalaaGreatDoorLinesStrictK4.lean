/- Texts as rows of items: what a right line says, and how it is written. -/
import Derived.Lib.Join
import Derived.Tactics2
import Derived.Test.YtgopaoidgcgalaaGreatDoorLinesStrictK3
namespace Go.Proofs.YtgopaoidgcgalaaGreatDoor
set_option linter.all false
open Go.RowKit
/-! ### words to lines and back -/
def joinW : List (List UInt8) → List UInt8
  | [] => []
  | [w] => w
  | w :: x :: ws => w ++ 32 :: joinW (x :: ws)
theorem joinW_cons (w : List UInt8) {ws : List (List UInt8)} (h : ws ≠ []) : joinW (w :: ws) = w ++ 32 :: joinW ws := by
  cases ws with
  | nil => exact absurd rfl h
  | cons x ws => rfl
theorem join_split : ∀ l : List UInt8, joinW (splitC 32 l) = l
  | [] => rfl
  | b :: l => by
    have ih := join_split l
    rw [splitC]
    by_cases hb : b = 32
    · rw [if_pos hb, joinW_cons _ (splitC_ne 32 l), ih, hb]; rfl
    · rw [if_neg hb]
      cases hs : splitC 32 l with
      | nil => exact absurd hs (splitC_ne 32 l)
      | cons y ys =>
        rw [hs] at ih
        show joinW ((b :: y) :: ys) = _
        cases ys with
        | nil => simp only [joinW] at ih ⊢; rw [ih]
        | cons z zs => simp only [joinW] at ih ⊢; rw [← ih]; rfl
/-- lines to a text and back -/
def unlines (ls : List (List UInt8)) : List UInt8 := ls.flatMap fun l => l ++ [10]
theorem un_lines : ∀ (t acc : List UInt8) (ls : List (List UInt8)), (10 : UInt8) ∉ acc → linesF acc t = some ls → acc ++ t = unlines ls ∧ ∀ l ∈ ls, (10 : UInt8) ∉ l
  | [], acc, ls, _, h => by
    rw [linesF] at h
    split at h
    · cases h
      rename_i he
      cases acc with
      | nil => exact ⟨rfl, by simp⟩
      | cons b l => cases he
    · cases h
  | b :: t, acc, ls, ha, h => by
    rw [linesF] at h
    by_cases hb : b = 10
    · rw [if_pos hb, Option.map_eq_some_iff] at h
      obtain ⟨ls', h1, rfl⟩ := h
      obtain ⟨h2, h3⟩ := un_lines t [] ls' (by simp) h1
      rw [List.nil_append] at h2
      refine ⟨by rw [h2, hb]; simp [unlines], fun l hl => ?_⟩
      rcases List.mem_cons.1 hl with rfl | hl
      · exact ha
      · exact h3 l hl
    · rw [if_neg hb] at h
      obtain ⟨h2, h3⟩ := un_lines t (acc ++ [b]) ls (by simp [ha, Ne.symm hb]) h
      exact ⟨by rw [← h2]; simp, h3⟩
/-! ### items -/
inductive Item where
  | clk (c : Clk)
  | dom (d : Dom)
  | res (r : Int)
  | dev (d : Dev)
  | reg (r : Rg)
def putRg (d : Dev) (r : Rg) : Dev := ⟨d.clock, d.domain, d.reset, d.clamp, d.regs ++ [r], d.needs⟩
/-- what an item makes of a description -/
def addI (s : Soc) : Item → Option Soc
  | .clk c => some ⟨s.clocks ++ [c], s.domains, s.resets, s.devs⟩
  | .dom d => some ⟨s.clocks, s.domains ++ [d], s.resets, s.devs⟩
  | .res r => some ⟨s.clocks, s.domains, s.resets ++ [r], s.devs⟩
  | .dev d => some ⟨s.clocks, s.domains, s.resets, s.devs ++ [d]⟩
  | .reg r => match s.devs[s.devs.length - 1]? with
    | some d => some ⟨s.clocks, s.domains, s.resets, s.devs.set (s.devs.length - 1) (putRg d r)⟩
    | none => none
def rgF : List ByteArray → Option Rg
  | [a, b] => match w32F a, keptF b with
    | some r, some k => some ⟨(r : Int), k⟩
    | _, _ => none
  | _ => none
/-- what a line says -/
def itemF : List ByteArray → Option Item
  | [] => none
  | k :: args =>
    if k = ⟨#[99, 108, 111, 99, 107]⟩ then (clockF args).map .clk
    else if k = ⟨#[100, 111, 109, 97, 105, 110]⟩ then (domF args).map .dom
    else if k = ⟨#[114, 101, 115, 101, 116]⟩ then (resF args).map .res
    else if k = ⟨#[100, 101, 118, 105, 99, 101]⟩ then (devF args).map .dev
    else if k = ⟨#[114, 101, 103]⟩ then (rgF args).map .reg
    else none
theorem takeF_item (s : Soc) (ws : List ByteArray) : takeF s ws = (itemF ws).bind (addI s) := by
  cases ws with
  | nil => rfl
  | cons k args =>
    rw [takeF, itemF]
    split
    · cases clockF args <;> rfl
    · split
      · cases domF args <;> rfl
      · split
        · cases resF args <;> rfl
        · split
          · cases devF args <;> rfl
          · split
            · unfold regF rgF
              split
              · rename_i a b
                cases hd : s.devs[s.devs.length - 1]? with
                | none => cases hw : w32F a <;> cases hk : keptF b <;> simp [addI, hd, hw, hk]
                | some d => cases hw : w32F a <;> cases hk : keptF b <;> simp [addI, hd, putRg, hw, hk]
              · rename_i hne
                match args, hne with
                | [], _ => rfl
                | [_], _ => rfl
                | [a, b], h => exact absurd rfl (h a b)
                | _ :: _ :: _ :: _, _ => rfl
            · rfl
/-! ### how an item is written -/
def kwC : List UInt8 := [99, 108, 111, 99, 107]
def kwD : List UInt8 := [100, 111, 109, 97, 105, 110]
def kwR : List UInt8 := [114, 101, 115, 101, 116]
def kwV : List UInt8 := [100, 101, 118, 105, 99, 101]
def kwG : List UInt8 := [114, 101, 103]
def numW (n : Int) : List UInt8 := Lib.itoa n
def keptW (b : Bool) : List UInt8 := if b then [107, 101, 101, 112] else [108, 111, 115, 101]
def aboveW (n : Int) : List UInt8 := if n = -1 then [45] else numW n
/-- the numbers behind a clock's kind -/
def Clk.nums (c : Clk) : List Int := c.src ++ (if c.kind = 111 then [c.rate] else if c.kind = 112 then [c.mul, c.div, c.lock] else if c.kind = 100 then [c.div] else [])
def clkW (c : Clk) : List (List UInt8) := kwC :: [UInt8.ofNat c.kind.toNat] :: c.nums.map numW
def domW (d : Dom) : List (List UInt8) := [kwD, aboveW d.above, numW d.delay, keptW d.ret]
def resW (r : Int) : List (List UInt8) := [kwR, numW r]
def devW (d : Dev) : List (List UInt8) := kwV :: numW d.clock :: numW d.domain :: numW d.reset :: numW d.clamp :: d.needs.map numW
def rgW (r : Rg) : List (List UInt8) := [kwG, numW r.reset, keptW r.kept]
def Item.words : Item → List (List UInt8)
  | .clk c => clkW c
  | .dom d => domW d
  | .res r => resW r
  | .dev d => devW d
  | .reg r => rgW r
/-- a number that has a word -/
def isNum (n : Int) : Prop := 0 ≤ n ∧ n < 1000000000000000
def Clk.can (c : Clk) : Prop := c.nums ≠ [] ∧ (∀ n ∈ c.nums, isNum n) ∧ 0 ≤ c.kind ∧ c.kind < 256 ∧ clockN c.kind.toNat (some c.nums) = some c
def Dom.can (d : Dom) : Prop := (d.above = -1 ∨ isNum d.above) ∧ isNum d.delay
def Dev.can (d : Dev) : Prop := isNum d.clock ∧ isNum d.domain ∧ isNum d.reset ∧ 0 ≤ d.clamp ∧ d.clamp ≤ 4294967295 ∧ ∀ n ∈ d.needs, isNum n
def Rg.can (r : Rg) : Prop := 0 ≤ r.reset ∧ r.reset ≤ 4294967295
/-- an item that a line can say -/
def Item.can : Item → Prop
  | .clk c => c.can
  | .dom d => d.can
  | .res r => isNum r
  | .dev d => d.can ∧ d.regs = []
  | .reg r => r.can
theorem numW_back {s : ByteArray} {n : Nat} (h : numF s = some n) : s = strOf (numW (n : Int)) ∧ isNum (n : Int) := by
  have h1 := numF_lt h
  refine ⟨?_, by omega, by omega⟩
  unfold numW Lib.itoa
  rw [if_neg (by omega), Int.toNat_natCast]
  exact numF_back h
theorem numsF_back : ∀ {ws : List ByteArray} {l : List Int}, numsF ws = some l → ws = (l.map numW).map strOf ∧ ∀ n ∈ l, isNum n
  | [], l, h => by simp [numsF] at h; subst h; simp
  | s :: r, l, h => by
    rw [numsF] at h
    cases hs : numF s with
    | none => rw [hs] at h; cases h
    | some n =>
      rw [hs] at h
      simp only [Option.map_eq_some_iff] at h
      obtain ⟨l', h1, rfl⟩ := h
      obtain ⟨h2, h3⟩ := numsF_back h1
      obtain ⟨h4, h5⟩ := numW_back hs
      refine ⟨by rw [h2, h4]; rfl, fun x hx => ?_⟩
      rcases List.mem_cons.1 hx with rfl | hx
      · exact h5
      · exact h3 x hx
theorem keptW_back {s : ByteArray} {b : Bool} (h : keptF s = some b) : s = strOf (keptW b) := by
  unfold keptF at h
  split at h
  · cases h; assumption
  · split at h
    · cases h; assumption
    · cases h
theorem aboveF_eq (s : ByteArray) : aboveF s = if s = ⟨#[45]⟩ then some (-1) else (numF s).map Int.ofNat := by unfold aboveF; cases numF s <;> rfl
theorem resF_one (s : ByteArray) : resF [s] = (numF s).map Int.ofNat := by rw [resF]; cases numF s <;> rfl
theorem aboveW_back {s : ByteArray} {n : Int} (h : aboveF s = some n) : s = strOf (aboveW n) ∧ (n = -1 ∨ isNum n) := by
  rw [aboveF_eq] at h
  split at h
  · rename_i he
    cases h
    exact ⟨he, .inl rfl⟩
  · rw [Option.map_eq_some_iff] at h
    obtain ⟨m, h1, rfl⟩ := h
    obtain ⟨h2, h3⟩ := numW_back h1
    refine ⟨?_, .inr h3⟩
    unfold aboveW
    rw [if_neg (by show ¬ (m : Int) = -1; omega)]
    exact h2
theorem w32_back {s : ByteArray} {n : Nat} (h : w32F s = some n) : s = strOf (numW (n : Int)) ∧ n ≤ 4294967295 := by
  unfold w32F at h
  cases hs : numF s with
  | none => rw [hs] at h; cases h
  | some m =>
    rw [hs] at h
    simp only [] at h
    split at h
    · cases h; exact ⟨(numW_back hs).1, by assumption⟩
    · cases h
theorem clockN_nums {k : Nat} {l : List Int} {c : Clk} (h : clockN k (some l) = some c) : c.kind = k ∧ c.nums = l := by
  unfold clockN at h
  dsimp only at h
  repeat' (split at h)
  all_goals first | (cases h; done) | (cases h; subst_vars; exact ⟨rfl, rfl⟩) | (cases h; subst_vars; exact ⟨rfl, by simp [Clk.nums]⟩)
theorem u8_of {b : UInt8} : UInt8.ofNat b.toNat = b := by simp
theorem itemF_back {ws : List ByteArray} {i : Item} (h : itemF ws = some i) : ws = i.words.map strOf ∧ i.can := by
  cases ws with
  | nil => cases h
  | cons k args =>
    rw [itemF] at h
    split at h
    · rename_i hk
      rw [Option.map_eq_some_iff] at h
      obtain ⟨c, h1, rfl⟩ := h
      cases args with
      | nil => cases h1
      | cons a r =>
        rw [clockF] at h1
        split at h1
        · rename_i ha
          cases hn : numsF r with
          | none => rw [hn] at h1; cases h1
          | some l =>
            rw [hn] at h1
            obtain ⟨h2, h3⟩ := clockN_nums h1
            obtain ⟨h4, h5⟩ := numsF_back hn
            have hlt := (bAt a 0).toNat_lt
            have hnl := numsF_len _ _ hn
            refine ⟨?_, ?_, ?_, by rw [h2]; omega, by rw [h2]; omega, by rw [h3, h2, Int.toNat_natCast]; exact h1⟩
            · show _ :: _ :: _ = _
              rw [hk, show (Item.clk c).words = kwC :: [UInt8.ofNat c.kind.toNat] :: c.nums.map numW from rfl, List.map_cons, List.map_cons, h3, ← h4, h2, Int.toNat_natCast, u8_of]
              congr 2
              rw [← strOf_data a] at ha ⊢
              rw [bAt_strOf]
              rw [strOf_size] at ha
              obtain ⟨b, hb⟩ := len1 ha.1
              rw [hb]; rfl
            · rw [h3]; intro he; rw [he] at hnl; simp at hnl; omega
            · rw [h3]; exact h5
        · cases h1
    · split at h
      · rename_i hk
        rw [Option.map_eq_some_iff] at h
        obtain ⟨d, h1, rfl⟩ := h
        unfold domF at h1
        split at h1
        · split at h1
          · rename_i a b c x y z hx hy hz
            cases h1
            obtain ⟨h2, h3⟩ := aboveW_back hx
            obtain ⟨h4, h5⟩ := numW_back hy
            exact ⟨by rw [hk, h2, h4, keptW_back hz]; rfl, h3, h5⟩
          · cases h1
        · cases h1
      · split at h
        · rename_i hk
          rw [Option.map_eq_some_iff] at h
          obtain ⟨r, h1, rfl⟩ := h
          have h1' : ∃ a, args = [a] := by
            unfold resF at h1
            split at h1
            · exact ⟨_, rfl⟩
            · cases h1
          obtain ⟨a, rfl⟩ := h1'
          rw [resF_one, Option.map_eq_some_iff] at h1
          obtain ⟨n, h1, rfl⟩ := h1
          obtain ⟨h2, h3⟩ := numW_back h1
          exact ⟨by rw [hk, h2]; rfl, h3⟩
        · split at h
          · rename_i hk
            rw [Option.map_eq_some_iff] at h
            obtain ⟨d, h1, rfl⟩ := h
            unfold devF at h1
            split at h1
            · split at h1
              · rename_i hl _ _ _ x y z m l g1 g2 g3
                cases h1
                obtain ⟨e1, e2⟩ := numsF_back g1
                obtain ⟨e5, e6⟩ := numsF_back g3
                rw [Option.bind_eq_some_iff] at g2
                obtain ⟨a3, g2, g4⟩ := g2
                obtain ⟨e3, e4⟩ := w32_back g4
                have hs : args = args.take 3 ++ a3 :: args.drop 4 := by
                  conv => lhs; rw [← List.take_append_drop 3 args, drop_get g2]
                refine ⟨?_, ⟨e2 x (by simp), e2 y (by simp), e2 z (by simp), by show (0 : Int) ≤ (m : Int); omega, by show (m : Int) ≤ 4294967295; omega, e6⟩, rfl⟩
                rw [hk, hs, e1, e3, e5]; rfl
              · cases h1
            · cases h1
          · split at h
            · rename_i hk
              rw [Option.map_eq_some_iff] at h
              obtain ⟨r, h1, rfl⟩ := h
              unfold rgF at h1
              split at h1
              · split at h1
                · rename_i a b x z hx hz
                  cases h1
                  obtain ⟨h2, h3⟩ := w32_back hx
                  exact ⟨by rw [hk, h2, keptW_back hz]; rfl, by show (0 : Int) ≤ (x : Int); omega, by show (x : Int) ≤ 4294967295; omega⟩
                · cases h1
              · cases h1
            · cases h
/-! ### their words are words -/
theorem dd_range (n : Nat) : ∀ b ∈ Lib.decDigits n, 48 ≤ b.toNat ∧ b.toNat ≤ 57 := by
  induction n using Nat.strongRecOn with
  | ind n ih =>
    intro b hb
    by_cases h : n < 10
    · rw [dd_small h] at hb
      rw [List.mem_singleton] at hb; subst hb
      rw [u8_dig h]; omega
    · rw [dd_big h] at hb
      rcases List.mem_append.1 hb with hb | hb
      · exact ih (n / 10) (by omega) b hb
      · rw [List.mem_singleton] at hb; subst hb
        rw [u8_dig (Nat.mod_lt n (by omega))]; omega
theorem numW_range (n : Int) : ∀ b ∈ numW n, b.toNat = 45 ∨ (48 ≤ b.toNat ∧ b.toNat ≤ 57) := by
  intro b hb
  unfold numW Lib.itoa at hb
  split at hb
  · rcases List.mem_cons.1 hb with rfl | hb
    · exact .inl rfl
    · exact .inr (dd_range _ b hb)
  · exact .inr (dd_range _ b hb)
theorem numW_ne (n : Int) : numW n ≠ [] := by
  unfold numW Lib.itoa
  split
  · simp
  · exact dd_ne _
/-- no blank, no line's end, not empty -/
def isWord (w : List UInt8) : Prop := w ≠ [] ∧ ∀ b ∈ w, b ≠ 32 ∧ b ≠ 10
theorem isWord_num (n : Int) : isWord (numW n) := ⟨numW_ne n, fun b hb => by
  have := numW_range n b hb
  constructor <;> (rintro rfl; revert this; decide)⟩
theorem isWord_above (n : Int) : isWord (aboveW n) := by
  unfold aboveW; split
  · exact ⟨by simp, by simp⟩
  · exact isWord_num n
theorem isWord_kept (b : Bool) : isWord (keptW b) := by cases b <;> exact ⟨by simp [keptW], by simp [keptW]⟩
theorem clk_kind {c : Clk} (h : c.can) : c.kind = 111 ∨ c.kind = 112 ∨ c.kind = 109 ∨ c.kind = 100 ∨ c.kind = 103 := by
  obtain ⟨_, _, h3, h4, h5⟩ := h
  unfold clockN at h5
  dsimp only at h5
  repeat' (split at h5)
  all_goals first | (cases h5; done) | omega
theorem Item.isWords {i : Item} (h : i.can) : i.words ≠ [] ∧ ∀ w ∈ i.words, isWord w := by
  have hkw : ∀ w ∈ [kwC, kwD, kwR, kwV, kwG], isWord w := by
    intro w hw
    simp at hw
    rcases hw with rfl | rfl | rfl | rfl | rfl <;> exact ⟨by decide, by decide⟩
  cases i with
  | clk c =>
    refine ⟨by simp [Item.words, clkW], fun w hw => ?_⟩
    simp only [Item.words, clkW, List.mem_cons, List.mem_map] at hw
    rcases hw with rfl | rfl | ⟨n, _, rfl⟩
    · exact hkw _ (by simp)
    · refine ⟨by simp, fun b hb => ?_⟩
      simp at hb; subst hb
      rcases clk_kind h with h | h | h | h | h <;> rw [h] <;> decide
    · exact isWord_num n
  | dom d =>
    refine ⟨by simp [Item.words, domW], fun w hw => ?_⟩
    simp only [Item.words, domW, List.mem_cons, List.not_mem_nil, or_false] at hw
    rcases hw with rfl | rfl | rfl | rfl
    · exact hkw _ (by simp)
    · exact isWord_above _
    · exact isWord_num _
    · exact isWord_kept _
  | res r =>
    refine ⟨by simp [Item.words, resW], fun w hw => ?_⟩
    simp only [Item.words, resW, List.mem_cons, List.not_mem_nil, or_false] at hw
    rcases hw with rfl | rfl
    · exact hkw _ (by simp)
    · exact isWord_num _
  | dev d =>
    refine ⟨by simp [Item.words, devW], fun w hw => ?_⟩
    simp only [Item.words, devW, List.mem_cons, List.mem_map] at hw
    rcases hw with rfl | rfl | rfl | rfl | rfl | ⟨n, _, rfl⟩
    · exact hkw _ (by simp)
    all_goals exact isWord_num _
  | reg r =>
    refine ⟨by simp [Item.words, rgW], fun w hw => ?_⟩
    simp only [Item.words, rgW, List.mem_cons, List.not_mem_nil, or_false] at hw
    rcases hw with rfl | rfl | rfl
    · exact hkw _ (by simp)
    · exact isWord_num _
    · exact isWord_kept _
def Item.line (i : Item) : List UInt8 := joinW i.words
theorem joinW_mem {b : UInt8} : ∀ {ws : List (List UInt8)}, b ∈ joinW ws → b = 32 ∨ ∃ w ∈ ws, b ∈ w
  | [], h => by simp [joinW] at h
  | [w], h => .inr ⟨w, by simp, h⟩
  | w :: x :: ws, h => by
    rw [joinW] at h
    rcases List.mem_append.1 h with h | h
    · exact .inr ⟨w, by simp, h⟩
    · rcases List.mem_cons.1 h with h | h
      · exact .inl h
      · rcases joinW_mem h with h | ⟨y, hy, hb⟩
        · exact .inl h
        · exact .inr ⟨y, by simp [hy], hb⟩
theorem Item.line_no {i : Item} (h : i.can) : (10 : UInt8) ∉ i.line := fun hb => by
  rcases joinW_mem hb with h1 | ⟨w, hw, h1⟩
  · exact absurd h1 (by decide)
  · exact ((i.isWords h).2 w hw |>.2 _ h1).2 rfl
theorem item_line {l : List UInt8} {i : Item} (h : itemF (wordsF l) = some i) : l = i.line ∧ i.can := by
  obtain ⟨h1, h2⟩ := itemF_back h
  refine ⟨?_, h2⟩
  have h3 : splitC 32 l = i.words := by
    have := congrArg (List.map fun b : ByteArray => b.data.toList) h1
    simpa [wordsF, List.map_map, Function.comp_def, strOf] using this
  rw [Item.line, ← h3, join_split]
/-! ### rows of items -/
def addAll (s : Soc) : List Item → Option Soc
  | [] => some s
  | i :: is => (addI s i).bind fun s' => addAll s' is
def itemsT (is : List Item) : List UInt8 := unlines (is.map Item.line)
theorem items_takeAll : ∀ {ls : List (List UInt8)} {s s' : Soc}, takeAll s ls = some s' → ∃ is : List Item, ls = is.map Item.line ∧ (∀ i ∈ is, i.can) ∧ addAll s is = some s'
  | [], s, s', h => ⟨[], rfl, by simp, h⟩
  | l :: ls, s, s', h => by
    rw [takeAll, takeF_item, Option.bind_eq_some_iff] at h
    obtain ⟨s1, h1, h2⟩ := h
    rw [Option.bind_eq_some_iff] at h1
    obtain ⟨i, h1, h3⟩ := h1
    obtain ⟨is, rfl, h4, h5⟩ := items_takeAll h2
    obtain ⟨rfl, h6⟩ := item_line h1
    refine ⟨i :: is, rfl, fun j hj => ?_, by rw [addAll, h3]; exact h5⟩
    rcases List.mem_cons.1 hj with rfl | hj
    · exact h6
    · exact h4 j hj
theorem items_contF {t : List UInt8} {s s' : Soc} (h : contF s t = some s') : ∃ is : List Item, t = itemsT is ∧ (∀ i ∈ is, i.can) ∧ addAll s is = some s' := by
  rw [contF, Option.bind_eq_some_iff] at h
  obtain ⟨ls, h1, h2⟩ := h
  obtain ⟨is, rfl, h3, h4⟩ := items_takeAll h2
  have := (un_lines t [] _ (by simp) h1).1
  exact ⟨is, this, h3, h4⟩
/-! ### a description's items -/
def Dev.bare (d : Dev) : Dev := ⟨d.clock, d.domain, d.reset, d.clamp, [], d.needs⟩
def Dev.items (d : Dev) : List Item := .dev d.bare :: d.regs.map .reg
def Soc.items (s : Soc) : List Item := s.clocks.map .clk ++ (s.domains.map .dom ++ (s.resets.map .res ++ s.devs.flatMap Dev.items))
def printF (s : Soc) : List UInt8 := itemsT s.items
/-- a description that a text can say -/
structure Soc.can (s : Soc) : Prop where
  clocks : ∀ c ∈ s.clocks, c.can
  domains : ∀ d ∈ s.domains, d.can
  resets : ∀ r ∈ s.resets, isNum r
  devs : ∀ d ∈ s.devs, d.can ∧ ∀ r ∈ d.regs, r.can
theorem Soc.can.items {s : Soc} (h : s.can) : ∀ i ∈ s.items, i.can := by
  intro i hi
  simp only [Soc.items, List.mem_append, List.mem_map, List.mem_flatMap] at hi
  rcases hi with ⟨c, hc, rfl⟩ | ⟨c, hc, rfl⟩ | ⟨c, hc, rfl⟩ | ⟨d, hd, hi⟩
  · exact h.clocks c hc
  · exact h.domains c hc
  · exact h.resets c hc
  · rw [Dev.items] at hi
    rcases List.mem_cons.1 hi with rfl | hi
    · obtain ⟨h1, h2, h3, h4, h5, h6⟩ := (h.devs d hd).1
      exact ⟨⟨h1, h2, h3, h4, h5, h6⟩, rfl⟩
    · rw [List.mem_map] at hi
      obtain ⟨r, hr, rfl⟩ := hi
      exact (h.devs d hd).2 r hr
theorem addI_can {s s' : Soc} {i : Item} (h : addI s i = some s') (hs : s.can) (hi : i.can) : s'.can := by
  cases i with
  | clk c => cases h; exact ⟨fun x hx => by
      rcases List.mem_append.1 hx with hx | hx
      · exact hs.clocks x hx
      · simp at hx; subst hx; exact hi, hs.domains, hs.resets, hs.devs⟩
  | dom c => cases h; exact ⟨hs.clocks, fun x hx => by
      rcases List.mem_append.1 hx with hx | hx
      · exact hs.domains x hx
      · simp at hx; subst hx; exact hi, hs.resets, hs.devs⟩
  | res c => cases h; exact ⟨hs.clocks, hs.domains, fun x hx => by
      rcases List.mem_append.1 hx with hx | hx
      · exact hs.resets x hx
      · simp at hx; subst hx; exact hi, hs.devs⟩
  | dev c => cases h; exact ⟨hs.clocks, hs.domains, hs.resets, fun x hx => by
      rcases List.mem_append.1 hx with hx | hx
      · exact hs.devs x hx
      · simp at hx; subst hx; exact ⟨hi.1, by rw [hi.2]; simp⟩⟩
  | reg r =>
    rw [addI] at h
    split at h
    · rename_i d hd
      cases h
      have hd' := hs.devs d (List.mem_of_getElem? hd)
      refine ⟨hs.clocks, hs.domains, hs.resets, fun x hx => ?_⟩
      rcases List.mem_or_eq_of_mem_set hx with hx | rfl
      · exact hs.devs x hx
      · obtain ⟨h1, h2, h3, h4, h5, h6⟩ := hd'.1
        refine ⟨⟨h1, h2, h3, h4, h5, h6⟩, fun y hy => ?_⟩
        rcases List.mem_append.1 hy with hy | hy
        · exact hd'.2 y hy
        · simp at hy; subst hy; exact hi
    · cases h
theorem addAll_can : ∀ {is : List Item} {s s' : Soc}, addAll s is = some s' → s.can → (∀ i ∈ is, i.can) → s'.can
  | [], s, s', h, hs, _ => by cases h; exact hs
  | i :: is, s, s', h, hs, hi => by
    rw [addAll, Option.bind_eq_some_iff] at h
    obtain ⟨s1, h1, h2⟩ := h
    exact addAll_can h2 (addI_can h1 hs (hi i (by simp))) fun j hj => hi j (by simp [hj])
theorem soc0_can : soc0.can := ⟨by simp [soc0], by simp [soc0], by simp [soc0], by simp [soc0]⟩
theorem contF_can {t : List UInt8} {s : Soc} (h : contF soc0 t = some s) : s.can := by
  obtain ⟨is, _, h1, h2⟩ := items_contF h
  exact addAll_can h2 soc0_can h1
/-! ### how long a text is -/
def itemL (i : Item) : Nat := i.line.length + 1
def itemsL (is : List Item) : Nat := (is.map itemL).sum
theorem itemsT_cons (i : Item) (is : List Item) : itemsT (i :: is) = i.line ++ 10 :: itemsT is := by simp [itemsT, unlines]
theorem itemsT_app (is js : List Item) : itemsT (is ++ js) = itemsT is ++ itemsT js := by simp [itemsT, unlines]
theorem itemsT_len : ∀ is : List Item, (itemsT is).length = itemsL is
  | [] => rfl
  | i :: is => by
    rw [itemsT_cons, List.length_append, List.length_cons, itemsT_len is]
    simp only [itemsL, List.map_cons, List.sum_cons, itemL]
    omega
theorem itemsL_app (is js : List Item) : itemsL (is ++ js) = itemsL is + itemsL js := by simp [itemsL]
theorem itemsL_cons (i : Item) (is : List Item) : itemsL (i :: is) = itemL i + itemsL is := by simp [itemsL]
def devsL (l : List Dev) : Nat := itemsL (l.flatMap Dev.items)
theorem devsL_app (l k : List Dev) : devsL (l ++ k) = devsL l + devsL k := by simp [devsL, itemsL_app]
theorem devL_put (d : Dev) (r : Rg) : itemsL (putRg d r).items = itemsL d.items + itemL (.reg r) := by
  simp only [Dev.items, putRg, Dev.bare, List.map_append, itemsL_cons, itemsL_app, List.map_cons, List.map_nil]
  simp only [itemsL, List.map_nil, List.sum_nil]
  omega
theorem set_last {α : Type} (l : List α) (d x : α) (h : l[l.length - 1]? = some d) : ∃ k, l = k ++ [d] ∧ l.set (l.length - 1) x = k ++ [x] := by
  rcases List.eq_nil_or_concat l with rfl | ⟨k, y, rfl⟩
  · simp at h
  · simp at h
    subst h
    exact ⟨k, by simp, by simp⟩
def socL (s : Soc) : Nat := itemsL s.items
theorem socL_eq (s : Soc) : socL s = itemsL (s.clocks.map .clk) + (itemsL (s.domains.map .dom) + (itemsL (s.resets.map .res) + devsL s.devs)) := by
  simp only [socL, Soc.items, itemsL_app, devsL]
theorem addI_len {s s' : Soc} {i : Item} (h : addI s i = some s') (hi : i.can) : socL s' = socL s + itemL i := by
  rw [socL_eq, socL_eq]
  cases i with
  | clk c => cases h; simp only [List.map_append, itemsL_app, List.map_cons, List.map_nil, itemsL_cons]; simp only [itemsL, List.map_nil, List.sum_nil]; omega
  | dom c => cases h; simp only [List.map_append, itemsL_app, List.map_cons, List.map_nil, itemsL_cons]; simp only [itemsL, List.map_nil, List.sum_nil]; omega
  | res c => cases h; simp only [List.map_append, itemsL_app, List.map_cons, List.map_nil, itemsL_cons]; simp only [itemsL, List.map_nil, List.sum_nil]; omega
  | dev d =>
    cases h
    have hb : d.bare = d := by cases d; cases hi.2; rfl
    have : devsL [d] = itemL (.dev d) := by
      simp only [devsL, List.flatMap_cons, List.flatMap_nil, List.append_nil, Dev.items, hb, hi.2, List.map_nil, itemsL_cons]
      simp only [itemsL, List.map_nil, List.sum_nil]; rfl
    simp only [devsL_app, this]
    omega
  | reg r =>
    rw [addI] at h
    split at h
    · rename_i d hd
      cases h
      obtain ⟨k, h1, h2⟩ := set_last s.devs d (putRg d r) hd
      simp only [h2]
      rw [h1, devsL_app, devsL_app]
      have h3 : devsL [putRg d r] = devsL [d] + itemL (.reg r) := by
        simp only [devsL, List.flatMap_cons, List.flatMap_nil, List.append_nil]
        exact devL_put d r
      omega
    · cases h
theorem addAll_len : ∀ {is : List Item} {s s' : Soc}, addAll s is = some s' → (∀ i ∈ is, i.can) → socL s' = socL s + itemsL is
  | [], s, s', h, _ => by cases h; simp [itemsL]
  | i :: is, s, s', h, hi => by
    rw [addAll, Option.bind_eq_some_iff] at h
    obtain ⟨s1, h1, h2⟩ := h
    have e1 := addI_len h1 (hi i (by simp))
    have e2 := addAll_len h2 fun j hj => hi j (by simp [hj])
    rw [itemsL_cons]; omega
theorem contF_len {t : List UInt8} {s : Soc} (h : contF soc0 t = some s) : t.length = (printF s).length := by
  obtain ⟨is, rfl, h1, h2⟩ := items_contF h
  have := addAll_len h2 h1
  rw [itemsT_len, printF, itemsT_len]
  have h0 : socL soc0 = 0 := rfl
  have : socL s = itemsL s.items := rfl
  omega
end Go.Proofs.YtgopaoidgcgalaaGreatDoor
/- package lines: words that are written. -/
namespace Go.Proofs.YtgopaoidgcgalaaGreatDoor
set_option linter.all false
open Go.RowKit
theorem SlS.ofB {w : World} {B n : Nat} {A : Option Addr} {xs : List Value} (h : Sl w B 1 A n xs) : SlS (all w) 1 A n xs := ⟨h.1, fun hn => by
  obtain ⟨b, off, hA, _, hc⟩ := h.2 hn
  refine ⟨b, off, hA, ?_, hc⟩
  have hx := h.1
  have h0 := hc 0 (xs[0]'(by omega)) (List.getElem?_eq_getElem _)
  show b < w.heap.size
  rcases Nat.lt_or_ge b w.heap.size with h | h
  · exact h
  · simp [World.cell?, Array.getElem?_eq_none h] at h0⟩
/-- numbers as words -/
def wrdS (l : List Int) : List ByteArray := l.map fun n => strOf (numW n)
theorem wrdS_len (l : List Int) : (wrdS l).length = l.length := by simp [wrdS]
def isI64 (n : Int) : Prop := -9223372036854775808 ≤ n ∧ n ≤ 9223372036854775807
theorem itoa_ok (n : Int) (h : isI64 n) (w : World) (htab : PowTab w) : Calls Tryz.prog 34 #[.int .i64 n] w (Rt (.string (strOf (numW n))) w) :=
  (Tryz.strconv_Itoa n h.1 h.2 w htab).mono fun y w' hy => by
    obtain ⟨h1, k, os, rfl⟩ := hy
    exact ⟨h1, Lib.below_grow w.heap.size w (Nat.le_refl _) k os⟩
theorem numW_nat (n : Nat) : numW (n : Int) = Lib.decDigits n := by
  unfold numW Lib.itoa
  rw [if_neg (by omega), Int.toNat_natCast]

theorem kept_ok (b : Bool) (w : World) :
    Calls Tryz.prog 35 #[.bool b] w (Rt (.string (strOf (keptW b))) w) := by
  refine XK.enter (vs := [.bool b]) Tryz.func35 rfl Tryz.ntmps35 (by simp) ?_
  refine XK.seq ?_

  refine XK.region ?_
  refine xk_assign rfl (by decide) ?_
  refine XK.nilN ?_
  refine XK.seq ?_
  refine XK.seq ?_

  refine XK.region ?_
  refine xk_move rfl (by decide) ?_
  refine XK.nilN ?_
  refine XK.cond rfl (fun h => ?_) (fun h => ?_)
  ·
    refine XK.seq ?_

    refine XK.region ?_
    refine xk_assign rfl (by decide) ?_
    refine XK.nilN ?_
    refine XK.ret ?_
    refine XK.norm ?_
    exact XK.ret1 rfl rfl fun w1 st => ⟨by subst h; rfl, st.below (by simp)⟩
  ·
    refine XK.skip ?_
    refine XK.norm ?_
    refine XK.seq ?_

    refine XK.region ?_
    refine xk_assign rfl (by decide) ?_
    refine XK.nilN ?_
    refine XK.ret ?_
    refine XK.norm ?_
    exact XK.ret1 rfl rfl fun w1 st => ⟨by subst h; rfl, st.below (by simp)⟩

theorem word32_ok (n : Int) (hn : 0 ≤ n ∧ n ≤ 4294967295) (w : World) (htab : PowTab w) :
    Calls Tryz.prog 37 #[.int .u32 n] w (Rt (.string (strOf (numW n))) w) := by
  refine XK.enter (vs := [.int .u32 n]) Tryz.func37 rfl Tryz.ntmps37 (by simp) ?_
  refine XK.seq ?_

  refine XK.region ?_
  refine xk_assign rfl (by decide) ?_
  refine XK.nilN ?_
  refine XK.seq ?_

  refine XK.region ?_
  refine xk_move rfl (by decide) ?_
  refine xk_conv (ds := .int .u32) (by kernel_rfl) (by kernel_rfl) rfl (wrap_u64 (by omega)) (by decide) ?_
  obtain ⟨k, rfl⟩ : ∃ k : Nat, n = (k : Int) := ⟨n.toNat, by omega⟩
  refine xk_callR (f := 94) (fi := []) (ca := []) (by kernel_rfl) rfl rfl (by decide) (fun w1 st => fmtU64_ok k (by omega) w1 (PowTab.go htab (st.below (by simp)))) ?_
  refine xk_assign rfl (by decide) ?_
  refine XK.nilN ?_
  refine XK.ret ?_
  refine XK.norm ?_
  exact XK.ret1 rfl rfl fun w1 st => ⟨by rw [numW_nat], st.below (by simp)⟩

/-- words of its own -/
def WrdOk (ws : List ByteArray) (v : Value) (w w' : World) : Prop := ∃ A c, v = .slice A ws.length c ∧ ws.length ≤ c ∧ SlS (fresh w w') 1 A ws.length (strCells ws)
theorem own_cap {el : TypeId} {sz n c : Nat} {A : Option Addr} {xs : List Value} {F : Nat → Prop} {w : World} (h : (HP.own el sz (.slice A n c) n xs).sat F w) : n ≤ c := by
  rcases h.2.2 with ⟨h1, h2⟩ | ⟨g, cap, cur, h1, _, _, h2, _⟩
  · omega
  · cases h1; exact h2
theorem strCells_one (l : List ByteArray) (s : ByteArray) : strCells l ++ [.string s] = strCells (l ++ [s]) := by simp [strCells]
theorem strCells_app (l k : List ByteArray) : strCells l ++ strCells k = strCells (l ++ k) := by simp [strCells]
theorem strCells_cell (l : List ByteArray) : ∀ u ∈ strCells l, u.oneCell' = true := by
  intro u hu
  rw [strCells, List.mem_map] at hu
  obtain ⟨s, _, rfl⟩ := hu
  rfl
theorem ints_ok (l : List Int) (A : Option Addr) (n c : Nat) (w : World) (hS : SlS (all w) 1 A n (intCells l)) (hn : l.length = n) (hn63 : n ≤ 1000000) (hl : ∀ x ∈ l, isI64 x) (htab : PowTab w) :
    Calls Tryz.prog 36 #[.slice A n c] w (fun y w' => (∃ v, y = .returned v ∧ WrdOk (wrdS l) v w w') ∧ Below w.heap.size w w') := by
  refine XK.enter (vs := [.slice A n c]) Tryz.func36 rfl Tryz.ntmps36 (by simp) ?_
  refine XK.seq ?_

  refine XK.region ?_
  refine xk_assign rfl (by decide) ?_
  refine XK.nilN ?_
  refine XK.seq ?_

  refine XK.region ?_
  refine xk_assign rfl (by decide) ?_
  refine XK.nilN ?_
  refine XK.seq ?_
  refine XK.seq ?_
  refine XK.nilrow 9 1 ?_

  refine XK.region ?_
  refine xk_move rfl (by decide) ?_
  refine xk_len (el := 3) (by kernel_rfl) rfl (by decide) ?_
  refine xk_move rfl (by decide) ?_
  refine XK.nilN ?_
  refine XK.envS [(8, .int .i64 0), (7, .int .i64 (n : Int)), (6, .slice A n c), (3, .slice none 0 0), (2, .slice none 0 0)] ?_
  refine XK.block ?_
  refine XK.loop (fun m e R H => ∃ (k : Nat) (A1 : Option Addr) (c1 : Nat), k ≤ n ∧ m = n - k ∧ e = [(8, .int .i64 (k : Int)), (7, .int .i64 (n : Int)), (6, .slice A n c), (3, .slice A1 k c1), (2, .slice none 0 0)] ∧ R = [all w] ∧ H = [HP.own 9 1 (.slice A1 k c1) k (strCells (wrdS (l.take k)))]) n ⟨0, none, 0, by omega, by omega, rfl, rfl, rfl⟩ fun m e R H hI => ?_
  obtain ⟨k, A1, c1, hkn, rfl, rfl, rfl, rfl⟩ := hI
  refine XK.seq ?_

  refine XK.region ?_
  refine xk_lss rfl rfl (by decide) ?_
  refine XK.nilN ?_
  refine XK.seq ?_
  refine XK.if_ rfl (fun hlt => ?_) (fun hlt => ?_)
  ·
    refine XK.skip ?_
    refine XK.norm ?_
    refine XK.seq ?_
    refine XK.block ?_
    refine XK.seq ?_
    have hks : k < n := by omega
    obtain ⟨b, off, rfl, hz, hc⟩ := hS.2 (by omega)
    obtain ⟨x, hx⟩ : ∃ x, l[k]? = some x := ⟨_, List.getElem?_eq_getElem (by omega)⟩
    have hxx := hl x (List.mem_of_getElem? hx)
    have htk : l.take (k + 1) = l.take k ++ [x] := by rw [List.take_add_one, hx]; rfl

    refine XK.region ?_
    refine xk_at (k) (off + k) (el := 3) (sz := 1) (by kernel_rfl) (by kernel_rfl) rfl rfl (by omega) (by omega) (by omega) (by decide) ?_
    refine xk_load (by kernel_rfl) rfl (Rd.ro (p := all w) (by simp) hz (hc k _ (by rw [intCells, List.getElem?_map, hx]; rfl))) (by decide) ?_
    refine xk_assign rfl (by decide) ?_
    refine XK.nilN ?_

    refine XK.region ?_
    refine xk_move rfl (by decide) ?_
    refine xk_move rfl (by decide) ?_
    refine xk_callR (f := 34) (fi := []) (ca := []) (by kernel_rfl) rfl rfl (by decide) (fun w1 st => itoa_ok x hxx w1 (PowTab.go htab (st.below (by simp)))) ?_
    refine xk_slice (el := 9) (sz := 1) (zs := [.string ⟨#[]⟩]) (by kernel_rfl) (zeroB_of (by kernel_rfl)) (by kernel_rfl) rfl (by decide) (by decide) rfl (by simp [fillL, setN, Value.cells, List.range_succ, List.set]; rfl) (by decide) fun g1 => ?_
    refine xk_appendT 1 1 16 1 (n' := k + 1) (el := 9) (by kernel_rfl) (by kernel_rfl) (by decide) rfl rfl rfl (sl_blk 0 rfl rfl) (by simp [Value.oneCell']) rfl (by omega) (by omega) (by decide) fun A2 c2 => ?_
    dsimp only [List.set]
    rw [strCells_one]
    refine xk_assign rfl (by decide) ?_
    refine XK.nilN ?_

    refine XK.region ?_
    refine xk_add rfl rfl (wrap_in (by omega)) (by decide) ?_
    refine xk_move rfl (by decide) ?_
    refine XK.nilN ?_
    exact XK.weak [1] rfl (by decide) (by simp) (XK.envS [(8, .int .i64 ((k + 1 : Nat) : Int)), (7, .int .i64 (n : Int)), (6, .slice (some ⟨b, off, none⟩) n c), (3, .slice A2 (k + 1) c2), (2, .slice none 0 0)] (XK.round _ (by omega) ⟨k + 1, A2, c2, by omega, rfl, rfl, rfl, by rw [htk]; simp [wrdS]⟩))
  ·
    refine XK.exit ?_
    refine XK.norm ?_
    refine XK.seq ?_

    refine XK.region ?_
    refine xk_move rfl (by decide) ?_
    refine xk_assign rfl (by decide) ?_
    refine XK.nilN ?_
    refine XK.ret ?_
    refine XK.norm ?_
    have hkn : k = n := by omega
    subst hkn
    have hal : l.take k = l := List.take_of_length_le (by omega)
    rw [hal]
    refine XK.still [] [0] [] (by simp) rfl (by decide) (by decide) fun q hq _ hfr => ?_
    exact XK.ret1 rfl rfl fun w1 st => ⟨⟨_, rfl, A1, c1, by rw [wrdS_len, hn], by rw [wrdS_len, hn]; obtain ⟨F, hF, _⟩ := hq 0 _ (by simp) rfl; exact own_cap hF, by
      have h := SlS.own (hq 0 _ (by simp) rfl)
      rw [wrdS_len, hn]
      exact SlS.le h (st.fresh_le (by simp) (hfr (by simp) (by simp)))⟩, st.below (by simp)⟩

theorem join_joinW : ∀ ws : List (List UInt8), Lib.join ws [32] = joinW ws
  | [] => rfl
  | [w] => by rw [Lib.join_one]; rfl
  | w :: x :: ws => by
    have ih := join_joinW (x :: ws)
    rw [joinW, ← ih]
    simp [Lib.join, List.intercalate, List.intersperse]
theorem dat_strOf (ws : List (List UInt8)) : (ws.map strOf).map (fun s : ByteArray => s.data.toList) = ws := by
  rw [List.map_map]; conv => rhs; rw [← List.map_id ws]
  apply List.map_congr_left; intro x _; simp [strOf]
theorem join_ok (ws : List (List UInt8)) (A : Option Addr) (n c : Nat) (w : World) (hS : SlS (all w) 1 A n (strCells (ws.map strOf))) (hn : ws.length = n) (h0 : 0 < n) (hc : n ≤ c) (hn63 : n ≤ 100000000) (hlen : (joinW ws).length ≤ 140737488355328) :
    Calls Tryz.prog 92 #[.slice A n c, .string ⟨#[32]⟩] w (Rt (.string (strOf (joinW ws))) w) := by
  obtain ⟨bk, o, rfl, hz, hcc⟩ := hS.2 h0
  have hjn := Tryz.strings_Join bk o c (ws.map strOf) ⟨#[32]⟩ w (fun j x hx => hcc j _ (strCells_at hx)) hz (by rw [List.length_map]; omega) (by rw [List.length_map]; omega) (by rw [dat_strOf, show (ByteArray.mk #[32]).data.toList = [32] from rfl, join_joinW]; exact hlen)
  rw [dat_strOf, show (ByteArray.mk #[32]).data.toList = [32] from rfl, join_joinW, List.length_map, hn] at hjn
  exact hjn
theorem line_ok (b : Nat) (l : List UInt8) (ws : List (List UInt8)) (A : Option Addr) (n c : Nat) (w : World) (F : Nat → Prop) (hp : (HP.bldr b l).sat F w) (hF : ∀ b, F b → b < w.heap.size) (hS : SlS ⟨w, fun b => b < w.heap.size ∧ ¬ F b⟩ 1 A n (strCells (ws.map strOf))) (hn : ws.length = n) (h0 : 0 < n) (hc : n ≤ c) (hn63 : n ≤ 100000000) (hlen : l.length + (joinW ws).length + 1 ≤ 140737488355328) :
    Calls Tryz.prog 32 #[.pointer (some ⟨b, 0, none⟩), .slice A n c] w (fun y w' => y = .returned (.tuple #[]) ∧ ∃ F', (HP.bldr b (l ++ (joinW ws ++ [10]))).sat F' w' ∧ Turns w w' F F') := by
  refine XK.enterM (p := HP.bldr b l) (F := F) (vs := [.pointer (some ⟨b, 0, none⟩), .slice A n c]) Tryz.func32 rfl Tryz.ntmps32 (by simp) hp hF ?_
  obtain ⟨p0, hp0⟩ : ∃ p0, p0 = (⟨w, fun b => b < w.heap.size ∧ ¬ F b⟩ : Piece) := ⟨_, rfl⟩
  rw [← hp0] at hS ⊢
  refine XK.seq ?_

  refine XK.region ?_
  refine xk_move rfl (by decide) ?_
  refine xk_move rfl (by decide) ?_
  refine xk_callR (f := 92) (fi := []) (ca := []) (by kernel_rfl) rfl rfl (by decide) (fun w1 st => join_ok ws A n c w1 (hS.le (st.le (by simp))) hn h0 hc hn63 (by omega)) ?_
  refine xk_callE 0 (f := 91) (fi := []) (ca := []) (HP.bldr b (l ++ (strOf (joinW ws)).data.toList)) (by kernel_rfl) rfl rfl rfl ⟨by decide, rfl⟩ (fun w1 F1 st hs hl hq => wstr_ok b l _ (by rw [strOf_size]; omega) w1 F1 hs hl) ?_
  dsimp only [List.set]
  rw [show (strOf (joinW ws)).data.toList = joinW ws from by simp [strOf]]
  refine XK.nilN ?_

  refine XK.region ?_
  refine xk_move rfl (by decide) ?_
  refine xk_callE 0 (f := 93) (fi := []) (ca := []) (HP.bldr b (l ++ joinW ws ++ [10])) (by kernel_rfl) rfl rfl rfl ⟨by decide, rfl⟩ (fun w1 F1 st hs hl hq => wbyte_ok b _ (by rw [List.length_append]; omega) w1 F1 hs hl) ?_
  dsimp only [List.set]
  refine XK.nilN ?_
  exact XK.ret0 (.inr rfl) rfl fun w1 st => ⟨rfl, by
    have h := st.turns hF (by simp [hp0]) (i := 0) rfl
    rwa [List.append_assoc] at h⟩

theorem wrdS_app (l k : List Int) : wrdS (l ++ k) = wrdS l ++ wrdS k := by simp [wrdS]
theorem clkW_map (c : Clk) : (clkW c).map strOf = strOf kwC :: strOf [UInt8.ofNat c.kind.toNat] :: wrdS c.nums := by simp [clkW, wrdS]
theorem clockWords_ok (c : Clk) (As : Option Addr) (ns ks : Nat) (w : World) (hS : SlS (all w) 1 As ns (intCells c.src)) (hn : c.src.length = ns) (hns : ns ≤ 1000000) (hsrc : ∀ x ∈ c.src, isI64 x) (hk : 0 ≤ c.kind ∧ c.kind < 256) (hr : 0 ≤ c.rate ∧ c.rate < 18446744073709551616) (hm : isI64 c.mul) (hd : isI64 c.div) (hl : isI64 c.lock) (htab : PowTab w) :
    Calls Tryz.prog 33 #[.agg #[.int .u8 c.kind, .slice As ns ks, .int .u64 c.rate, .int .i64 c.mul, .int .i64 c.div, .int .i64 c.lock]] w (fun y w' => (∃ v, y = .returned v ∧ WrdOk ((clkW c).map strOf) v w w') ∧ Below w.heap.size w w') := by
  have hkc : ([Value.int .u8 c.kind] : List Value) = Lib.byteCells [UInt8.ofNat c.kind.toNat] := by
    have : (UInt8.ofNat c.kind.toNat).toNat = c.kind.toNat := by rw [UInt8.toNat_ofNat']; exact Nat.mod_eq_of_lt (by omega)
    simp only [Lib.byteCells, List.map_cons, List.map_nil, this]
    rw [Int.toNat_of_nonneg hk.1]
  refine XK.enter (vs := [.agg #[.int .u8 c.kind, .slice As ns ks, .int .u64 c.rate, .int .i64 c.mul, .int .i64 c.div, .int .i64 c.lock]]) Tryz.func33 rfl Tryz.ntmps33 (by simp) ?_
  refine XK.seq ?_

  refine XK.region ?_
  refine xk_box rfl (by decide) fun g1 => ?_
  refine xk_assign rfl (by decide) ?_
  refine XK.nilN ?_
  refine XK.cut (fun e R H => ∃ A2 c2, e = [(3, .slice A2 (2 + ns) c2), (2, .slice none 0 0), (1, .pointer (some ⟨g1, 0, none⟩))] ∧ R = [all w] ∧ H = [HP.own 9 1 (.slice A2 (2 + ns) c2) (2 + ns) (strCells (strOf kwC :: strOf [UInt8.ofNat c.kind.toNat] :: wrdS c.src)), HP.blk g1 55 [.int .u8 c.kind, .slice As ns ks, .int .u64 c.rate, .int .i64 c.mul, .int .i64 c.div, .int .i64 c.lock]]) ?_ ?_
  ·

    refine XK.draw 8 (by kernel_rfl) (by kernel_rfl) ?_
    refine XA.dA 0 rfl rfl rfl (does_field (off := 0) (by kernel_rfl) rfl) ?_
    refine XA.dA 1 rfl rfl rfl (does_ld rfl) ?_
    refine XA.dA 5 rfl rfl rfl (does_field (off := 1) (by kernel_rfl) rfl) ?_
    refine XA.dA 6 rfl rfl rfl (does_ld rfl) ?_
    refine XA.either 2 7 rfl rfl (by kernel_rfl) ?_ ?_
    · refine xk_slice (el := 5) (sz := 1) (zs := [.int .u8 0]) (by kernel_rfl) (zeroB_of (by kernel_rfl)) (by kernel_rfl) rfl (by decide) (by decide) rfl (by simp [fillL, setN, Value.cells, List.range_succ, List.set]; rfl) (by decide) fun g2 => ?_
      refine XA.bk ?_
      refine XA.either 3 7 rfl rfl (by kernel_rfl) ?_ ?_
      · refine xk_bytesStr [UInt8.ofNat c.kind.toNat] Tryz.underlying74 Tryz.underlying5 Tryz.underlying9 rfl rfl (fun w1 st => by rw [← hkc]; exact RdN.whole 0 rfl w1 st) (by decide) ?_
        refine XA.bk ?_
        refine XA.either 4 7 rfl rfl (by kernel_rfl) ?_ ?_
        · refine xk_slice (el := 9) (sz := 1) (zs := [.string ⟨#[]⟩]) (by kernel_rfl) (zeroB_of (by kernel_rfl)) (by kernel_rfl) rfl (by decide) (by decide) rfl (by simp [fillL, setN, Value.cells, List.range_succ, List.set]; rfl) (by decide) fun g3 => ?_
          refine XA.bk ?_
          refine XA.next 7 rfl (by kernel_rfl) ?_
          refine xk_call (f := 36) (fi := []) (ca := []) [] (by kernel_rfl) rfl rfl (by decide) (by simp) (fun v w w' => WrdOk (wrdS c.src) v w w') (fun w1 st => ints_ok c.src As ns ks w1 (hS.le (st.le (p := all w) (by simp))) hn hns hsrc (PowTab.go htab (st.below (by simp)))) fun v w1 q hv hq _ _ => ?_
          obtain ⟨Ai, ci, rfl, hci, hSi⟩ := hv
          rw [wrdS_len, hn] at hci hSi ⊢
          have hSi := SlS.le hSi hq
          refine XA.bk ?_
          refine XA.next 8 rfl (by kernel_rfl) ?_
          refine XK.asOwn 0 1 2 rfl rfl (by omega) ?_
          dsimp only [List.set]
          refine xk_appendT 0 1 16 ns (n' := 2 + ns) (el := 9) (by kernel_rfl) (by kernel_rfl) (by decide) rfl rfl rfl (sl_ro (p := q) (by simp) hSi) (strCells_cell _) rfl (by omega) (by omega) (by decide) fun A2 c2 => ?_
          dsimp only [List.set]
          refine XA.bt ?_
          refine XA.next 9 rfl (by kernel_rfl) ?_
          refine xk_assign rfl (by decide) ?_
          refine XA.bt ?_
          refine XA.done (by kernel_rfl) ?_
          refine XK.norm ?_
          exact XK.weak [0, 2] rfl (by decide) (by simp) (XK.envS [(3, .slice A2 (2 + ns) c2), (2, .slice none 0 0), (1, .pointer (some ⟨g1, 0, none⟩))] (XK.meet ⟨A2, c2, rfl, rfl, rfl⟩))
        · refine xk_call (f := 36) (fi := []) (ca := []) [] (by kernel_rfl) rfl rfl (by decide) (by simp) (fun v w w' => WrdOk (wrdS c.src) v w w') (fun w1 st => ints_ok c.src As ns ks w1 (hS.le (st.le (p := all w) (by simp))) hn hns hsrc (PowTab.go htab (st.below (by simp)))) fun v w1 q hv hq _ _ => ?_
          obtain ⟨Ai, ci, rfl, hci, hSi⟩ := hv
          rw [wrdS_len, hn] at hci hSi ⊢
          have hSi := SlS.le hSi hq
          refine XA.bk ?_
          refine XA.next 4 rfl (by kernel_rfl) ?_
          refine xk_slice (el := 9) (sz := 1) (zs := [.string ⟨#[]⟩]) (by kernel_rfl) (zeroB_of (by kernel_rfl)) (by kernel_rfl) rfl (by decide) (by decide) rfl (by simp [fillL, setN, Value.cells, List.range_succ, List.set]; rfl) (by decide) fun g3 => ?_
          refine XA.bk ?_
          refine XA.next 8 rfl (by kernel_rfl) ?_
          refine XK.asOwn 0 1 2 rfl rfl (by omega) ?_
          dsimp only [List.set]
          refine xk_appendT 0 1 16 ns (n' := 2 + ns) (el := 9) (by kernel_rfl) (by kernel_rfl) (by decide) rfl rfl rfl (sl_ro (p := q) (by simp) hSi) (strCells_cell _) rfl (by omega) (by omega) (by decide) fun A2 c2 => ?_
          dsimp only [List.set]
          refine XA.bt ?_
          refine XA.next 9 rfl (by kernel_rfl) ?_
          refine xk_assign rfl (by decide) ?_
          refine XA.bt ?_
          refine XA.done (by kernel_rfl) ?_
          refine XK.norm ?_
          exact XK.weak [0, 2] rfl (by decide) (by simp) (XK.envS [(3, .slice A2 (2 + ns) c2), (2, .slice none 0 0), (1, .pointer (some ⟨g1, 0, none⟩))] (XK.meet ⟨A2, c2, rfl, rfl, rfl⟩))
      · refine xk_call (f := 36) (fi := []) (ca := []) [] (by kernel_rfl) rfl rfl (by decide) (by simp) (fun v w w' => WrdOk (wrdS c.src) v w w') (fun w1 st => ints_ok c.src As ns ks w1 (hS.le (st.le (p := all w) (by simp))) hn hns hsrc (PowTab.go htab (st.below (by simp)))) fun v w1 q hv hq _ _ => ?_
        obtain ⟨Ai, ci, rfl, hci, hSi⟩ := hv
        rw [wrdS_len, hn] at hci hSi ⊢
        have hSi := SlS.le hSi hq
        refine XA.bk ?_
        refine XA.next 3 rfl (by kernel_rfl) ?_
        refine xk_bytesStr [UInt8.ofNat c.kind.toNat] Tryz.underlying74 Tryz.underlying5 Tryz.underlying9 rfl rfl (fun w1 st => by rw [← hkc]; exact RdN.whole 0 rfl w1 st) (by decide) ?_
        refine XA.bk ?_
        refine XA.next 4 rfl (by kernel_rfl) ?_
        refine xk_slice (el := 9) (sz := 1) (zs := [.string ⟨#[]⟩]) (by kernel_rfl) (zeroB_of (by kernel_rfl)) (by kernel_rfl) rfl (by decide) (by decide) rfl (by simp [fillL, setN, Value.cells, List.range_succ, List.set]; rfl) (by decide) fun g3 => ?_
        refine XA.bk ?_
        refine XA.next 8 rfl (by kernel_rfl) ?_
        refine XK.asOwn 0 1 2 rfl rfl (by omega) ?_
        dsimp only [List.set]
        refine xk_appendT 0 1 16 ns (n' := 2 + ns) (el := 9) (by kernel_rfl) (by kernel_rfl) (by decide) rfl rfl rfl (sl_ro (p := q) (by simp) hSi) (strCells_cell _) rfl (by omega) (by omega) (by decide) fun A2 c2 => ?_
        dsimp only [List.set]
        refine XA.bt ?_
        refine XA.next 9 rfl (by kernel_rfl) ?_
        refine xk_assign rfl (by decide) ?_
        refine XA.bt ?_
        refine XA.done (by kernel_rfl) ?_
        refine XK.norm ?_
        exact XK.weak [0, 2] rfl (by decide) (by simp) (XK.envS [(3, .slice A2 (2 + ns) c2), (2, .slice none 0 0), (1, .pointer (some ⟨g1, 0, none⟩))] (XK.meet ⟨A2, c2, rfl, rfl, rfl⟩))
    · refine xk_call (f := 36) (fi := []) (ca := []) [] (by kernel_rfl) rfl rfl (by decide) (by simp) (fun v w w' => WrdOk (wrdS c.src) v w w') (fun w1 st => ints_ok c.src As ns ks w1 (hS.le (st.le (p := all w) (by simp))) hn hns hsrc (PowTab.go htab (st.below (by simp)))) fun v w1 q hv hq _ _ => ?_
      obtain ⟨Ai, ci, rfl, hci, hSi⟩ := hv
      rw [wrdS_len, hn] at hci hSi ⊢
      have hSi := SlS.le hSi hq
      refine XA.bk ?_
      refine XA.next 2 rfl (by kernel_rfl) ?_
      refine xk_slice (el := 5) (sz := 1) (zs := [.int .u8 0]) (by kernel_rfl) (zeroB_of (by kernel_rfl)) (by kernel_rfl) rfl (by decide) (by decide) rfl (by simp [fillL, setN, Value.cells, List.range_succ, List.set]; rfl) (by decide) fun g2 => ?_
      refine XA.bk ?_
      refine XA.next 3 rfl (by kernel_rfl) ?_
      refine xk_bytesStr [UInt8.ofNat c.kind.toNat] Tryz.underlying74 Tryz.underlying5 Tryz.underlying9 rfl rfl (fun w1 st => by rw [← hkc]; exact RdN.whole 0 rfl w1 st) (by decide) ?_
      refine XA.bk ?_
      refine XA.next 4 rfl (by kernel_rfl) ?_
      refine xk_slice (el := 9) (sz := 1) (zs := [.string ⟨#[]⟩]) (by kernel_rfl) (zeroB_of (by kernel_rfl)) (by kernel_rfl) rfl (by decide) (by decide) rfl (by simp [fillL, setN, Value.cells, List.range_succ, List.set]; rfl) (by decide) fun g3 => ?_
      refine XA.bk ?_
      refine XA.next 8 rfl (by kernel_rfl) ?_
      refine XK.asOwn 0 1 2 rfl rfl (by omega) ?_
      dsimp only [List.set]
      refine xk_appendT 0 1 16 ns (n' := 2 + ns) (el := 9) (by kernel_rfl) (by kernel_rfl) (by decide) rfl rfl rfl (sl_ro (p := q) (by simp) hSi) (strCells_cell _) rfl (by omega) (by omega) (by decide) fun A2 c2 => ?_
      dsimp only [List.set]
      refine XA.bt ?_
      refine XA.next 9 rfl (by kernel_rfl) ?_
      refine xk_assign rfl (by decide) ?_
      refine XA.bt ?_
      refine XA.done (by kernel_rfl) ?_
      refine XK.norm ?_
      exact XK.weak [0, 2] rfl (by decide) (by simp) (XK.envS [(3, .slice A2 (2 + ns) c2), (2, .slice none 0 0), (1, .pointer (some ⟨g1, 0, none⟩))] (XK.meet ⟨A2, c2, rfl, rfl, rfl⟩))
  rintro _ _ _ ⟨A2, c2, rfl, rfl, rfl⟩
  refine XK.seq ?_
  refine XK.seq ?_

  refine XK.region ?_
  refine xk_field (off := 0) (by kernel_rfl) rfl (by decide) ?_
  refine xk_ld rfl ?_
  refine XK.nilN ?_
  refine XK.block ?_
  refine XK.seq ?_

  refine XK.region ?_
  refine xk_eql rfl rfl (by decide) ?_
  refine xk_assign rfl (by decide) ?_
  refine XK.nilN ?_
  refine XK.if_ rfl (fun h1 => ?_) (fun h1 => ?_)
  ·

    refine XK.region ?_
    refine xk_move rfl (by decide) ?_
    refine xk_field (off := 2) (by kernel_rfl) rfl (by decide) ?_
    refine xk_ld rfl ?_
    obtain ⟨rt, hrt⟩ : ∃ rt : Nat, c.rate = (rt : Int) := ⟨c.rate.toNat, by omega⟩
    rw [hrt]
    refine xk_callR (f := 94) (fi := []) (ca := []) (by kernel_rfl) rfl rfl (by decide) (fun w1 st => fmtU64_ok rt (by omega) w1 (PowTab.go htab (st.below (by simp)))) ?_
    rw [← numW_nat rt, ← hrt]
    refine xk_slice (el := 9) (sz := 1) (zs := [.string ⟨#[]⟩]) (by kernel_rfl) (zeroB_of (by kernel_rfl)) (by kernel_rfl) rfl (by decide) (by decide) rfl (by simp [fillL, setN, Value.cells, List.range_succ, List.set]; rfl) (by decide) fun g4 => ?_
    refine xk_appendT 1 1 16 1 (n' := 2 + ns + 1) (el := 9) (by kernel_rfl) (by kernel_rfl) (by decide) rfl rfl rfl (sl_blk 0 rfl rfl) (news := strCells (wrdS [c.rate])) (strCells_cell _) rfl (by omega) (by omega) (by decide) fun A3 c3 => ?_
    dsimp only [List.set]
    rw [strCells_app]
    refine xk_assign rfl (by decide) ?_
    refine XK.nilN ?_
    refine XK.seq ?_

    refine XK.region ?_
    refine xk_move rfl (by decide) ?_
    refine xk_assign rfl (by decide) ?_
    refine XK.nilN ?_
    refine XK.ret ?_
    refine XK.norm ?_
    have hW : (clkW c).map strOf = (strOf kwC :: strOf [UInt8.ofNat c.kind.toNat] :: wrdS c.src) ++ wrdS [c.rate] := by rw [clkW_map]; unfold Clk.nums; rw [if_pos h1]; rw [wrdS_app]; rfl
    have hWl : ((clkW c).map strOf).length = 2 + ns + 1 := by rw [hW]; simp [wrdS_len, hn]; omega
    refine XK.still [] [1] [] (by simp) rfl (by decide) (by decide) fun q' hq' _ hfr' => ?_
    exact XK.ret1 rfl rfl fun w1 st => ⟨⟨_, rfl, A3, c3, by rw [hWl], by rw [hWl]; obtain ⟨F, hF, _⟩ := hq' 1 _ (by simp) rfl; exact own_cap hF, by
      have h := SlS.own (hq' 1 _ (by simp) rfl)
      rw [hWl, hW]
      exact SlS.le h (st.fresh_le (by simp) (hfr' (by simp) (by simp)))⟩, st.below (by simp)⟩
  ·
    refine XK.seq ?_

    refine XK.region ?_
    refine xk_eql rfl rfl (by decide) ?_
    refine xk_assign rfl (by decide) ?_
    refine XK.nilN ?_
    refine XK.if_ rfl (fun h2 => ?_) (fun h2 => ?_)
    ·

      refine XK.region ?_
      refine xk_move rfl (by decide) ?_
      refine xk_field (off := 3) (by kernel_rfl) rfl (by decide) ?_
      refine xk_ld rfl ?_
      refine xk_field (off := 4) (by kernel_rfl) rfl (by decide) ?_
      refine xk_ld rfl ?_
      refine xk_field (off := 5) (by kernel_rfl) rfl (by decide) ?_
      refine xk_ld rfl ?_
      refine xk_slice (el := 3) (sz := 1) (zs := [.int .i64 0]) (by kernel_rfl) (zeroB_of (by kernel_rfl)) (by kernel_rfl) rfl (by decide) (by decide) rfl (by simp [fillL, setN, Value.cells, List.range_succ, List.set]; rfl) (by decide) fun g5 => ?_
      refine xk_call (f := 36) (fi := []) (ca := []) [] (by kernel_rfl) rfl rfl (by decide) (by simp) (fun v w w' => WrdOk (wrdS [c.mul, c.div, c.lock]) v w w') (fun w1 st => ints_ok [c.mul, c.div, c.lock] _ _ _ w1 (by obtain ⟨B, hB⟩ := sl_blk (sz := 1) (m := 3) 0 rfl rfl w1 st; exact SlS.ofB hB) rfl (by omega) (by intro x hx; simp at hx; rcases hx with rfl | rfl | rfl <;> assumption) (PowTab.go htab (st.below (by simp)))) fun v w1 q hv hq _ _ => ?_
      obtain ⟨Ai, ci, rfl, hci, hSi⟩ := hv
      rw [wrdS_len] at hci hSi ⊢
      have hSi := SlS.le hSi hq
      refine xk_appendT 1 1 16 3 (n' := 2 + ns + 3) (el := 9) (by kernel_rfl) (by kernel_rfl) (by decide) rfl rfl rfl (sl_ro (p := q) (by simp) hSi) (strCells_cell _) rfl (by omega) (by omega) (by decide) fun A3 c3 => ?_
      dsimp only [List.set]
      rw [strCells_app]
      refine xk_assign rfl (by decide) ?_
      refine XK.nilN ?_
      refine XK.seq ?_

      refine XK.region ?_
      refine xk_move rfl (by decide) ?_
      refine xk_assign rfl (by decide) ?_
      refine XK.nilN ?_
      refine XK.ret ?_
      refine XK.norm ?_
      have hW : (clkW c).map strOf = (strOf kwC :: strOf [UInt8.ofNat c.kind.toNat] :: wrdS c.src) ++ wrdS [c.mul, c.div, c.lock] := by rw [clkW_map]; unfold Clk.nums; rw [if_neg h1, if_pos h2]; rw [wrdS_app]; rfl
      have hWl : ((clkW c).map strOf).length = 2 + ns + 3 := by rw [hW]; simp [wrdS_len, hn]; omega
      refine XK.still [] [1] [] (by simp) rfl (by decide) (by decide) fun q' hq' _ hfr' => ?_
      exact XK.ret1 rfl rfl fun w1 st => ⟨⟨_, rfl, A3, c3, by rw [hWl], by rw [hWl]; obtain ⟨F, hF, _⟩ := hq' 1 _ (by simp) rfl; exact own_cap hF, by
        have h := SlS.own (hq' 1 _ (by simp) rfl)
        rw [hWl, hW]
        exact SlS.le h (st.fresh_le (by simp) (hfr' (by simp) (by simp)))⟩, st.below (by simp)⟩
    ·
      refine XK.seq ?_

      refine XK.region ?_
      refine xk_eql rfl rfl (by decide) ?_
      refine xk_assign rfl (by decide) ?_
      refine XK.nilN ?_
      refine XK.if_ rfl (fun h3 => ?_) (fun h3 => ?_)
      ·

        refine XK.region ?_
        refine xk_move rfl (by decide) ?_
        refine xk_field (off := 4) (by kernel_rfl) rfl (by decide) ?_
        refine xk_ld rfl ?_
        refine xk_slice (el := 3) (sz := 1) (zs := [.int .i64 0]) (by kernel_rfl) (zeroB_of (by kernel_rfl)) (by kernel_rfl) rfl (by decide) (by decide) rfl (by simp [fillL, setN, Value.cells, List.range_succ, List.set]; rfl) (by decide) fun g6 => ?_
        refine xk_call (f := 36) (fi := []) (ca := []) [] (by kernel_rfl) rfl rfl (by decide) (by simp) (fun v w w' => WrdOk (wrdS [c.div]) v w w') (fun w1 st => ints_ok [c.div] _ _ _ w1 (by obtain ⟨B, hB⟩ := sl_blk (sz := 1) (m := 1) 0 rfl rfl w1 st; exact SlS.ofB hB) rfl (by omega) (by intro x hx; simp at hx; subst hx; assumption) (PowTab.go htab (st.below (by simp)))) fun v w1 q hv hq _ _ => ?_
        obtain ⟨Ai, ci, rfl, hci, hSi⟩ := hv
        rw [wrdS_len] at hci hSi ⊢
        have hSi := SlS.le hSi hq
        refine xk_appendT 1 1 16 1 (n' := 2 + ns + 1) (el := 9) (by kernel_rfl) (by kernel_rfl) (by decide) rfl rfl rfl (sl_ro (p := q) (by simp) hSi) (strCells_cell _) rfl (by omega) (by omega) (by decide) fun A3 c3 => ?_
        dsimp only [List.set]
        rw [strCells_app]
        refine xk_assign rfl (by decide) ?_
        refine XK.nilN ?_
        refine XK.seq ?_

        refine XK.region ?_
        refine xk_move rfl (by decide) ?_
        refine xk_assign rfl (by decide) ?_
        refine XK.nilN ?_
        refine XK.ret ?_
        refine XK.norm ?_
        have hW : (clkW c).map strOf = (strOf kwC :: strOf [UInt8.ofNat c.kind.toNat] :: wrdS c.src) ++ wrdS [c.div] := by rw [clkW_map]; unfold Clk.nums; rw [if_neg h1, if_neg h2, if_pos h3]; rw [wrdS_app]; rfl
        have hWl : ((clkW c).map strOf).length = 2 + ns + 1 := by rw [hW]; simp [wrdS_len, hn]; omega
        refine XK.still [] [1] [] (by simp) rfl (by decide) (by decide) fun q' hq' _ hfr' => ?_
        exact XK.ret1 rfl rfl fun w1 st => ⟨⟨_, rfl, A3, c3, by rw [hWl], by rw [hWl]; obtain ⟨F, hF, _⟩ := hq' 1 _ (by simp) rfl; exact own_cap hF, by
          have h := SlS.own (hq' 1 _ (by simp) rfl)
          rw [hWl, hW]
          exact SlS.le h (st.fresh_le (by simp) (hfr' (by simp) (by simp)))⟩, st.below (by simp)⟩
      ·
        refine XK.skip ?_
        refine XK.norm ?_
        refine XK.seq ?_

        refine XK.region ?_
        refine xk_move rfl (by decide) ?_
        refine xk_assign rfl (by decide) ?_
        refine XK.nilN ?_
        refine XK.ret ?_
        refine XK.norm ?_
        have hW : (clkW c).map strOf = (strOf kwC :: strOf [UInt8.ofNat c.kind.toNat] :: wrdS c.src) := by rw [clkW_map]; unfold Clk.nums; rw [if_neg h1, if_neg h2, if_neg h3]; rw [List.append_nil]
        have hWl : ((clkW c).map strOf).length = 2 + ns := by rw [hW]; simp [wrdS_len, hn]; omega
        refine XK.still [] [0] [] (by simp) rfl (by decide) (by decide) fun q' hq' _ hfr' => ?_
        exact XK.ret1 rfl rfl fun w1 st => ⟨⟨_, rfl, A2, c2, by rw [hWl], by rw [hWl]; obtain ⟨F, hF, _⟩ := hq' 0 _ (by simp) rfl; exact own_cap hF, by
          have h := SlS.own (hq' 0 _ (by simp) rfl)
          rw [hWl, hW]
          exact SlS.le h (st.fresh_le (by simp) (hfr' (by simp) (by simp)))⟩, st.below (by simp)⟩

end Go.Proofs.YtgopaoidgcgalaaGreatDoor
/- package lines: Print. -/
namespace Go.Proofs.YtgopaoidgcgalaaGreatDoor
set_option linter.all false
open Go.RowKit
/-- numbers that have room where they lie -/
structure Soc.in64 (s : Soc) : Prop where
  clocks : ∀ c ∈ s.clocks, (∀ x ∈ c.src, isI64 x) ∧ (0 ≤ c.kind ∧ c.kind < 256) ∧ (0 ≤ c.rate ∧ c.rate < 18446744073709551616) ∧ isI64 c.mul ∧ isI64 c.div ∧ isI64 c.lock
  domains : ∀ d ∈ s.domains, isI64 d.above ∧ isI64 d.delay
  resets : ∀ r ∈ s.resets, isI64 r
  devs : ∀ d ∈ s.devs, isI64 d.clock ∧ isI64 d.domain ∧ isI64 d.reset ∧ (0 ≤ d.clamp ∧ d.clamp ≤ 4294967295) ∧ (∀ x ∈ d.needs, isI64 x) ∧ ∀ r ∈ d.regs, 0 ≤ r.reset ∧ r.reset ≤ 4294967295
theorem itemsT_one (i : Item) : itemsT [i] = joinW i.words ++ [10] := by simp [itemsT, unlines, Item.line]
theorem pre_step {s : Soc} {pre suf : List Item} (i : Item) (h : s.items = pre ++ i :: suf) : (itemsT pre).length + (joinW i.words).length + 1 ≤ (printF s).length := by
  have h2 : printF s = itemsT pre ++ (itemsT [i] ++ itemsT suf) := by rw [printF, h, itemsT_app, show i :: suf = [i] ++ suf from rfl, itemsT_app]
  rw [h2, itemsT_one]
  simp only [List.length_append, List.length_cons, List.length_nil]
  omega
theorem take_cut {α : Type} {l : List α} {k : Nat} {x : α} (h : l[k]? = some x) : l = l.take k ++ x :: l.drop (k + 1) ∧ l.take (k + 1) = l.take k ++ [x] := by
  refine ⟨?_, by rw [List.take_add_one, h]; rfl⟩
  conv => lhs; rw [← List.take_append_drop k l, drop_get h]
def preC (s : Soc) (k : Nat) : List Item := (s.clocks.take k).map .clk
def preD (s : Soc) (k : Nat) : List Item := s.clocks.map .clk ++ (s.domains.take k).map .dom
def preR (s : Soc) (k : Nat) : List Item := s.clocks.map .clk ++ (s.domains.map .dom ++ (s.resets.take k).map .res)
def preV (s : Soc) (k : Nat) : List Item := s.clocks.map .clk ++ (s.domains.map .dom ++ (s.resets.map .res ++ (s.devs.take k).flatMap Dev.items))
def preG (s : Soc) (k : Nat) (d : Dev) (j : Nat) : List Item := preV s k ++ .dev d.bare :: (d.regs.take j).map .reg
theorem preC_next {s : Soc} {k : Nat} {c : Clk} (h : s.clocks[k]? = some c) : preC s (k + 1) = preC s k ++ [.clk c] ∧ ∃ suf, s.items = preC s k ++ .clk c :: suf := by
  obtain ⟨h1, h2⟩ := take_cut h
  refine ⟨by unfold preC; rw [h2]; simp, (s.clocks.drop (k + 1)).map .clk ++ (s.domains.map .dom ++ (s.resets.map .res ++ s.devs.flatMap Dev.items)), ?_⟩
  unfold preC Soc.items
  conv => lhs; rw [h1]
  simp
theorem clkW_len (c : Clk) : 2 ≤ (clkW c).length ∧ (clkW c).length ≤ 5 + c.src.length := by
  unfold clkW Clk.nums
  simp only [List.length_cons, List.length_map, List.length_append]
  split
  · simp; omega
  · split
    · simp; omega
    · split <;> simp <;> omega
theorem preD_next {s : Soc} {k : Nat} {c : Dom} (h : s.domains[k]? = some c) : preD s (k + 1) = preD s k ++ [.dom c] ∧ ∃ suf, s.items = preD s k ++ .dom c :: suf := by
  obtain ⟨h1, h2⟩ := take_cut h
  refine ⟨by unfold preD; rw [h2]; simp, (s.domains.drop (k + 1)).map .dom ++ (s.resets.map .res ++ s.devs.flatMap Dev.items), ?_⟩
  unfold preD Soc.items
  conv => lhs; rw [h1]
  simp
theorem preR_next {s : Soc} {k : Nat} {c : Int} (h : s.resets[k]? = some c) : preR s (k + 1) = preR s k ++ [.res c] ∧ ∃ suf, s.items = preR s k ++ .res c :: suf := by
  obtain ⟨h1, h2⟩ := take_cut h
  refine ⟨by unfold preR; rw [h2]; simp, (s.resets.drop (k + 1)).map .res ++ s.devs.flatMap Dev.items, ?_⟩
  unfold preR Soc.items
  conv => lhs; rw [h1]
  simp
theorem preV_dev {s : Soc} {k : Nat} {d : Dev} (h : s.devs[k]? = some d) : ∃ suf, s.items = preV s k ++ .dev d.bare :: suf := by
  obtain ⟨h1, h2⟩ := take_cut h
  refine ⟨d.regs.map .reg ++ (s.devs.drop (k + 1)).flatMap Dev.items, ?_⟩
  unfold preV Soc.items
  conv => lhs; rw [h1]
  simp [Dev.items]
theorem preG_next {s : Soc} {k j : Nat} {d : Dev} {r : Rg} (h : s.devs[k]? = some d) (hr : d.regs[j]? = some r) : preG s k d (j + 1) = preG s k d j ++ [.reg r] ∧ ∃ suf, s.items = preG s k d j ++ .reg r :: suf := by
  obtain ⟨h1, h2⟩ := take_cut h
  obtain ⟨h3, h4⟩ := take_cut hr
  refine ⟨by unfold preG; rw [h4]; simp, (d.regs.drop (j + 1)).map .reg ++ (s.devs.drop (k + 1)).flatMap Dev.items, ?_⟩
  unfold preG preV Soc.items
  conv => lhs; rw [h1]
  simp only [List.flatMap_append, List.flatMap_cons, Dev.items]
  conv => lhs; rw [h3]
  simp
theorem preV_next {s : Soc} {k : Nat} {d : Dev} (h : s.devs[k]? = some d) : preV s (k + 1) = preG s k d d.regs.length := by
  obtain ⟨h1, h2⟩ := take_cut h
  unfold preG preV
  rw [h2, List.take_of_length_le (Nat.le_refl _)]
  simp [Dev.items]
theorem preC_all (s : Soc) : itemsT (preC s s.clocks.length) = itemsT (preD s 0) := by simp [preC, preD]
theorem preD_all (s : Soc) : itemsT (preD s s.domains.length) = itemsT (preR s 0) := by simp [preD, preR]
theorem preR_all (s : Soc) : itemsT (preR s s.resets.length) = itemsT (preV s 0) := by simp [preR, preV]
theorem preV_all (s : Soc) : itemsT (preV s s.devs.length) = printF s := by simp [preV, printF, Soc.items]

section
variable {P : Program} {N : Frm} {w0 : World} {e : Env} {R : List Piece} {H : List HP} {Q : Exit → Act → World → Prop} {ops : Array Oper} {rest : List Oper}
variable {d : Nat} {ty : TypeId} {pos : String} {aft : Array Edge}
/-- the last call on a builder: behind it just what there was is known -/
theorem xk_bldEnd (i : Nat) {f : FuncId} {x : Operand} {args : List Operand} {fi ca vs : List Value} {tys : Array TypeId} {b : Nat} {l : List UInt8} {v : Value} (hf : callB P f = true) (hx : e.ev x = some (.func (.func f) fi.toArray ca.toArray)) (ha : e.evs args = some vs) (hi : H[i]? = some (HP.bldr b l)) (hd : d < N.n) (hR : all w0 ∈ R)
    (hc : ∀ w, Lib.IsBuilder 76 5 w0.heap.size b (Lib.byteCells l) w ∧ w0.heap.size ≤ w.heap.size → Calls P f (fi ++ vs ++ ca).toArray w fun y w' => y = .returned v ∧ Below w0.heap.size w w')
    (k : XK N w0 (wpList P ops Q rest) ((d, v) :: e) [all w0] []) : XK N w0 (wpList P ops Q (⟨some d, .call { callee := .value x, args := args.toArray, argTypes := tys }, ty, pos, aft, none⟩ :: rest)) e R H := fun a w hr st => wpList_plain rfl fun K hK => by
  unfold callB at hf
  cases hq : P.funcs[f]? with
  | none => simp [hq] at hf
  | some fn =>
    simp [hq] at hf
    obtain ⟨hf1, hf2⟩ := hf
    have hrun : (execOp a.eval (⟨some d, .call { callee := .value x, args := args.toArray, argTypes := tys }, ty, pos, aft, none⟩ : Oper)).run P w = .ok (.enter f (fi ++ vs ++ ca).toArray) w := by
      cases hb : fn.body with
      | none => simp [hb] at hf2
      | some c => simp [execOp, resolve, hr.ev hx, Deferred.ofValue, invoke, callFunc, hq, hf1, hb, hr.evs ha]
    have hbel := st.below hR
    obtain ⟨Z, F, hz, hrr, hs, hff, hdd⟩ := st.ex
    have hge : ∀ x, F i x → w0.heap.size ≤ x := fun x hx => by
      rcases Nat.lt_or_ge x w0.heap.size with h | h
      · exact absurd (hrr _ hR x h).1 (hff i x hx).1
      · exact h
    obtain ⟨⟨⟨pv, A, n, c⟩, hpv, hn⟩, G, h1, h2, h3⟩ := hs i _ hi
    have ho := h1 0 _ rfl
    have hb := h1 1 _ rfl
    dsimp only at hpv hn ho hb
    have hB : Lib.IsBuilder 76 5 w0.heap.size b (Lib.byteCells l) w := by
      have hbl : (Lib.byteCells l).length = n := by rw [Lib.byteCells_length, hn]
      have key : Lib.BuilderAt 76 5 w0.heap.size b pv (Lib.byteCells l) w := by
        refine ⟨hge b (h2 1 b hb.1), .slice A n c, hb.2, ?_, fun he => h3 0 1 b (by omega) (ho.1 b he) hb.1⟩
        rw [hbl]
        refine ⟨ho.2.1, ho.2.2.imp id ?_⟩
        rintro ⟨g, cap, cur, hv, _, hg, hrest⟩
        exact ⟨g, cap, cur, hv, hge g (h2 0 g (ho.1 g (by rw [hv]; rfl))), hg, hrest⟩
      rcases hpv with rfl | rfl
      · exact .inl key
      · exact .inr key
    unfold Oper.wp
    rw [hrun]
    refine (hc w ⟨hB, st.size⟩).mono fun y w' hy => ?_
    obtain ⟨rfl, hb2⟩ := hy
    have hb3 := hbel.trans hb2
    exact hK _ _ (k _ _ (hr.put hd v) ⟨hb3.os, hb3.tape, hb3.output, hb3.size, fun x => x < w0.heap.size, fun _ _ => False, fun x hx => Nat.lt_of_lt_of_le hx hb3.size, fun p hp x hx => by
      simp at hp; subst hp
      exact ⟨hx, hb3.block x hx⟩, fun j p hj => by simp at hj, fun _ _ h => h.elim, fun _ _ _ _ h => h.elim⟩)
end
set_option maxHeartbeats 4000000 in
theorem print_ok (s : Soc) (A1 A2 A3 A4 : Option Addr) (n1 k1 n2 k2 n3 k3 n4 k4 : Nat) (w : World) (hW : SocW w s A1 n1 A2 n2 A3 n3 A4 n4) (h64 : s.in64) (hregs : ∀ d ∈ s.devs, d.regs.length ≤ 1000000) (hbig : checkS s = 0 → (printF s).length ≤ 100000000000) (htab : PowTab w) :
    Calls Tryz.prog 17 #[.agg #[.slice A1 n1 k1, .slice A2 n2 k2, .slice A3 n3 k3, .slice A4 n4 k4]] w (Rt (.tuple #[.string (strOf (if checkS s = 0 then printF s else [])), .int .i64 (if checkS s = 0 then 0 else 1)]) w) := by
  have hn1 := hW.len1
  have hn2 := hW.len2
  have hn3 := hW.len3
  have hn4 := hW.len4
  have hs1 := hW.small.1
  have hs2 := hW.small.2.1
  have hs3 := hW.small.2.2.1
  have hs4 := hW.small.2.2.2.1
  refine XK.enter (vs := [.agg #[.slice A1 n1 k1, .slice A2 n2 k2, .slice A3 n3 k3, .slice A4 n4 k4]]) Tryz.func17 rfl Tryz.ntmps17 (by simp) ?_
  refine XK.seq ?_

  refine XK.region ?_
  refine xk_box rfl (by decide) fun g1 => ?_
  refine xk_assign rfl (by decide) ?_
  refine xk_assign rfl (by decide) ?_
  refine XK.nilN ?_
  refine XK.seq ?_
  refine XK.seq ?_

  refine XK.region ?_
  refine xk_ldN 4 rfl ?_
  refine xk_callR (f := 22) (fi := []) (ca := []) (by kernel_rfl) rfl rfl (by decide) (fun w1 st => checkS_any s A1 A2 A3 A4 n1 k1 n2 k2 n3 k3 n4 k4 w1 (hW.le (st.started (by simp)))) ?_
  refine xk_neq rfl rfl (by decide) ?_
  refine XK.nilN ?_
  refine XK.if_ rfl (fun hbad => ?_) (fun hok => ?_)
  ·
    refine XK.seq ?_

    refine XK.region ?_
    refine xk_assign rfl (by decide) ?_
    refine xk_assign rfl (by decide) ?_
    refine XK.nilN ?_
    refine XK.ret ?_
    refine XK.norm ?_
    exact XK.ret2 rfl rfl rfl fun w1 st => ⟨by rw [if_neg hbad, if_neg hbad]; rfl, st.below (by simp)⟩
  ·
    refine XK.skip ?_
    refine XK.norm ?_
    refine XK.seq ?_

    refine XK.region ?_
    refine xk_alloc (cs := [.pointer none, .slice none 0 0]) (zeroB_of (by kernel_rfl)) (by decide) fun g2 => ?_
    refine XK.nilrow 5 1 ?_
    refine XK.pair ?_
    refine XK.toEx 0 (f := fun x : BlX g2 [] => x.hp) ⟨(.pointer none, none, 0, 0), .inl rfl, rfl⟩ rfl ?_
    dsimp only [List.set]
    have hchk : checkS s = 0 := by omega
    have hbig := hbig hchk
    refine XK.nilN ?_
    refine XK.seq ?_
    refine XK.seq ?_

    refine XK.region ?_
    refine xk_field (off := 0) (by kernel_rfl) rfl (by decide) ?_
    refine xk_ld rfl ?_
    refine xk_len (el := 55) (by kernel_rfl) rfl (by decide) ?_
    refine xk_move rfl (by decide) ?_
    refine XK.nilN ?_
    refine XK.envS [(23, .int .i64 0), (22, .int .i64 (n1 : Int)), (21, .slice A1 n1 k1), (4, .pointer (some ⟨g2, 0, none⟩)), (3, .int .i64 0), (2, .string ⟨#[]⟩), (1, .pointer (some ⟨g1, 0, none⟩))] ?_
    refine XK.block ?_
    refine XK.loop (fun m e R H => ∃ k : Nat, k ≤ n1 ∧ m = n1 - k ∧ e = [(23, .int .i64 (k : Int)), (22, .int .i64 (n1 : Int)), (21, .slice A1 n1 k1), (4, .pointer (some ⟨g2, 0, none⟩)), (3, .int .i64 0), (2, .string ⟨#[]⟩), (1, .pointer (some ⟨g1, 0, none⟩))] ∧ R = [all w] ∧ H = [HP.bldr g2 (itemsT (preC s k)), HP.blk g1 28 [.slice A1 n1 k1, .slice A2 n2 k2, .slice A3 n3 k3, .slice A4 n4 k4]]) n1 ⟨0, by omega, by omega, rfl, rfl, rfl⟩ fun m e R H hI => ?_
    obtain ⟨k, hkn, rfl, rfl, rfl, rfl⟩ := hI
    refine XK.seq ?_

    refine XK.region ?_
    refine xk_lss rfl rfl (by decide) ?_
    refine XK.nilN ?_
    refine XK.seq ?_
    refine XK.if_ rfl (fun hlt => ?_) (fun hlt => ?_)
    ·
      refine XK.skip ?_
      refine XK.norm ?_
      refine XK.seq ?_
      refine XK.block ?_
      refine XK.seq ?_
      have hks : k < n1 := by omega
      obtain ⟨c, hc⟩ : ∃ c, s.clocks[k]? = some c := ⟨_, List.getElem?_eq_getElem (by omega)⟩
      have hcm := List.mem_of_getElem? hc
      obtain ⟨b, off, r, rfl, _, ⟨As, ns, ks, rfl, hns, hSs⟩, hro⟩ := hW.clk.row hc
      obtain ⟨hx1, hx2, hx3, hx4, hx5, hx6⟩ := h64.clocks c hcm
      have hsm := hW.small.2.2.2.2.1 c hcm

      refine XK.region ?_
      refine xk_at (k) (off + k * 6) (el := 55) (sz := 6) (by kernel_rfl) (by kernel_rfl) rfl rfl (by omega) (by omega) (by omega) (by decide) ?_
      refine xk_ldN 6 rfl ?_
      refine xk_alloc (cs := [.int .u8 0, .slice none 0 0, .int .u64 0, .int .i64 0, .int .i64 0, .int .i64 0]) (zeroB_of (by kernel_rfl)) (by decide) fun g3 => ?_
      (first | (refine xk_storeN 0 rfl rfl rfl (by kernel_rfl) (by simp [Value.cells, Value.oneCell']) (by simp [Value.cells]) ?_) | (refine xk_storeN 1 rfl rfl rfl (by kernel_rfl) (by simp [Value.cells, Value.oneCell']) (by simp [Value.cells]) ?_) | (refine xk_storeN 2 rfl rfl rfl (by kernel_rfl) (by simp [Value.cells, Value.oneCell']) (by simp [Value.cells]) ?_) | (refine xk_storeN 3 rfl rfl rfl (by kernel_rfl) (by simp [Value.cells, Value.oneCell']) (by simp [Value.cells]) ?_) | (refine xk_storeN 4 rfl rfl rfl (by kernel_rfl) (by simp [Value.cells, Value.oneCell']) (by simp [Value.cells]) ?_) | (refine xk_storeN 5 rfl rfl rfl (by kernel_rfl) (by simp [Value.cells, Value.oneCell']) (by simp [Value.cells]) ?_) | (refine xk_storeN 6 rfl rfl rfl (by kernel_rfl) (by simp [Value.cells, Value.oneCell']) (by simp [Value.cells]) ?_) | (refine xk_storeN 7 rfl rfl rfl (by kernel_rfl) (by simp [Value.cells, Value.oneCell']) (by simp [Value.cells]) ?_) | (refine xk_storeN 8 rfl rfl rfl (by kernel_rfl) (by simp [Value.cells, Value.oneCell']) (by simp [Value.cells]) ?_)); simp only [putN, Value.cells, List.set, List.take, List.drop, List.nil_append, List.append_nil, List.length_cons, List.length_nil, List.cons_append, Nat.reduceAdd]
      refine XK.nilN ?_

      refine XK.region ?_
      refine xk_ldN 6 rfl ?_
      refine xk_call (f := 33) (fi := []) (ca := []) [] (by kernel_rfl) rfl rfl (by decide) (by simp) (fun v w w' => WrdOk ((clkW c).map strOf) v w w') (fun w1 st => clockWords_ok c As ns ks w1 (SlS.le hSs (st.le (p := all w) (by simp))) hns.symm (by omega) hx1 hx2 hx3 hx4 hx5 hx6 (PowTab.go htab (st.below (by simp)))) fun v w1 q hv hq _ _ => ?_
      obtain ⟨Ai, ci, rfl, hci, hSi⟩ := hv
      rw [List.length_map] at hci hSi ⊢
      have hSi := SlS.le hSi hq
      obtain ⟨hpre, suf, hsuf⟩ := preC_next hc
      have hstep := pre_step (Item.clk c) hsuf
      refine xk_callE 1 (f := 32) (fi := []) (ca := []) (HP.bldr g2 (itemsT (preC s k) ++ (joinW ((Item.clk c)).words ++ [10]))) (by kernel_rfl) rfl rfl rfl ⟨by decide, rfl⟩ (fun w1 F1 st hs hl hq => line_ok g2 _ ((Item.clk c)).words Ai _ ci w1 F1 hs hl (hSi.le (hq _ (by simp))) rfl (by have := (clkW_len c).1; show 0 < (clkW c).length; omega) hci (by have := (clkW_len c).2; show (clkW c).length ≤ _; omega) (by omega)) ?_
      dsimp only [List.set]
      rw [← itemsT_one, ← itemsT_app, ← hpre]
      refine XK.nilN ?_

      refine XK.region ?_
      refine xk_add rfl rfl (wrap_in (by omega)) (by decide) ?_
      refine xk_move rfl (by decide) ?_
      refine XK.nilN ?_
      exact XK.weak [1, 2] rfl (by decide) (by simp) (XK.envS [(23, .int .i64 ((k + 1 : Nat) : Int)), (22, .int .i64 (n1 : Int)), (21, .slice (some ⟨b, off, none⟩) n1 k1), (4, .pointer (some ⟨g2, 0, none⟩)), (3, .int .i64 0), (2, .string ⟨#[]⟩), (1, .pointer (some ⟨g1, 0, none⟩))] (XK.round _ (by omega) ⟨k + 1, by omega, rfl, rfl, rfl, rfl⟩))
    ·
      refine XK.exit ?_
      refine XK.norm ?_
      refine XK.seq ?_
      refine XK.seq ?_
      have hke : k = s.clocks.length := by omega
      subst hke
      rw [preC_all]

      refine XK.region ?_
      refine xk_field (off := 1) (by kernel_rfl) rfl (by decide) ?_
      refine xk_ld rfl ?_
      refine xk_len (el := 69) (by kernel_rfl) rfl (by decide) ?_
      refine xk_move rfl (by decide) ?_
      refine XK.nilN ?_
      refine XK.envS [(34, .int .i64 0), (33, .int .i64 (n2 : Int)), (32, .slice A2 n2 k2), (4, .pointer (some ⟨g2, 0, none⟩)), (3, .int .i64 0), (2, .string ⟨#[]⟩), (1, .pointer (some ⟨g1, 0, none⟩))] ?_
      refine XK.block ?_
      refine XK.loop (fun m e R H => ∃ k : Nat, k ≤ n2 ∧ m = n2 - k ∧ e = [(34, .int .i64 (k : Int)), (33, .int .i64 (n2 : Int)), (32, .slice A2 n2 k2), (4, .pointer (some ⟨g2, 0, none⟩)), (3, .int .i64 0), (2, .string ⟨#[]⟩), (1, .pointer (some ⟨g1, 0, none⟩))] ∧ R = [all w] ∧ H = [HP.bldr g2 (itemsT (preD s k)), HP.blk g1 28 [.slice A1 n1 k1, .slice A2 n2 k2, .slice A3 n3 k3, .slice A4 n4 k4]]) n2 ⟨0, by omega, by omega, rfl, rfl, rfl⟩ fun m e R H hI => ?_
      obtain ⟨k, hkn, rfl, rfl, rfl, rfl⟩ := hI
      refine XK.seq ?_

      refine XK.region ?_
      refine xk_lss rfl rfl (by decide) ?_
      refine XK.nilN ?_
      refine XK.seq ?_
      refine XK.if_ rfl (fun hlt => ?_) (fun hlt => ?_)
      ·
        refine XK.skip ?_
        refine XK.norm ?_
        refine XK.seq ?_
        refine XK.block ?_
        refine XK.seq ?_
        have hks : k < n2 := by omega
        obtain ⟨c, hc⟩ : ∃ c, s.domains[k]? = some c := ⟨_, List.getElem?_eq_getElem (by omega)⟩
        have hcm := List.mem_of_getElem? hc
        obtain ⟨b, off, r, rfl, _, rfl, hro⟩ := hW.dom.row hc
        obtain ⟨hx1, hx2⟩ := h64.domains c hcm

        refine XK.region ?_
        refine xk_at (k) (off + k * 3) (el := 69) (sz := 3) (by kernel_rfl) (by kernel_rfl) rfl rfl (by omega) (by omega) (by omega) (by decide) ?_
        refine xk_ldN 3 rfl ?_
        refine xk_alloc (cs := [.int .i64 0, .int .i64 0, .bool false]) (zeroB_of (by kernel_rfl)) (by decide) fun g4 => ?_
        (first | (refine xk_storeN 0 rfl rfl rfl (by kernel_rfl) (by simp [Value.cells, Value.oneCell']) (by simp [Value.cells]) ?_) | (refine xk_storeN 1 rfl rfl rfl (by kernel_rfl) (by simp [Value.cells, Value.oneCell']) (by simp [Value.cells]) ?_) | (refine xk_storeN 2 rfl rfl rfl (by kernel_rfl) (by simp [Value.cells, Value.oneCell']) (by simp [Value.cells]) ?_) | (refine xk_storeN 3 rfl rfl rfl (by kernel_rfl) (by simp [Value.cells, Value.oneCell']) (by simp [Value.cells]) ?_) | (refine xk_storeN 4 rfl rfl rfl (by kernel_rfl) (by simp [Value.cells, Value.oneCell']) (by simp [Value.cells]) ?_) | (refine xk_storeN 5 rfl rfl rfl (by kernel_rfl) (by simp [Value.cells, Value.oneCell']) (by simp [Value.cells]) ?_) | (refine xk_storeN 6 rfl rfl rfl (by kernel_rfl) (by simp [Value.cells, Value.oneCell']) (by simp [Value.cells]) ?_) | (refine xk_storeN 7 rfl rfl rfl (by kernel_rfl) (by simp [Value.cells, Value.oneCell']) (by simp [Value.cells]) ?_) | (refine xk_storeN 8 rfl rfl rfl (by kernel_rfl) (by simp [Value.cells, Value.oneCell']) (by simp [Value.cells]) ?_)); simp only [putN, Value.cells, List.set, List.take, List.drop, List.nil_append, List.append_nil, List.length_cons, List.length_nil, List.cons_append, Nat.reduceAdd]
        refine XK.nilN ?_
        refine XK.seq ?_

        refine XK.region ?_
        refine xk_assign rfl (by decide) ?_
        refine XK.nilN ?_
        refine XK.cut (fun e R H => e = [(9, .string (strOf (aboveW c.above))), (8, .pointer (some ⟨g4, 0, none⟩)), (34, .int .i64 (k : Int)), (33, .int .i64 (n2 : Int)), (32, .slice (some ⟨b, off, none⟩) n2 k2), (4, .pointer (some ⟨g2, 0, none⟩)), (3, .int .i64 0), (2, .string ⟨#[]⟩), (1, .pointer (some ⟨g1, 0, none⟩))] ∧ R = [all w] ∧ H = [HP.blk g4 69 [.int .i64 c.above, .int .i64 c.delay, .bool c.ret], HP.bldr g2 (itemsT (preD s k)), HP.blk g1 28 [.slice A1 n1 k1, .slice (some ⟨b, off, none⟩) n2 k2, .slice A3 n3 k3, .slice A4 n4 k4]]) ?_ ?_
        ·
          refine XK.seq ?_

          refine XK.region ?_
          refine xk_field (off := 0) (by kernel_rfl) rfl (by decide) ?_
          refine xk_ld rfl ?_
          refine xk_neq rfl rfl (by decide) ?_
          refine XK.nilN ?_
          refine XK.if_ rfl (fun hab => ?_) (fun hab => ?_)
          ·

            refine XK.region ?_
            refine xk_field (off := 0) (by kernel_rfl) rfl (by decide) ?_
            refine xk_ld rfl ?_
            refine xk_callR (f := 34) (fi := []) (ca := []) (by kernel_rfl) rfl rfl (by decide) (fun w1 st => itoa_ok c.above hx1 w1 (PowTab.go htab (st.below (by simp)))) ?_
            rw [show numW c.above = aboveW c.above from by rw [aboveW, if_neg hab]]
            refine xk_assign rfl (by decide) ?_
            refine XK.nilN ?_
            exact XK.envS [(9, .string (strOf (aboveW c.above))), (8, .pointer (some ⟨g4, 0, none⟩)), (34, .int .i64 (k : Int)), (33, .int .i64 (n2 : Int)), (32, .slice (some ⟨b, off, none⟩) n2 k2), (4, .pointer (some ⟨g2, 0, none⟩)), (3, .int .i64 0), (2, .string ⟨#[]⟩), (1, .pointer (some ⟨g1, 0, none⟩))] (XK.meet ⟨rfl, rfl, rfl⟩)
          ·
            refine XK.skip ?_
            refine XK.norm ?_
            have hab1 : c.above = -1 := by omega
            exact XK.envS [(9, .string ⟨#[45]⟩), (8, .pointer (some ⟨g4, 0, none⟩)), (34, .int .i64 (k : Int)), (33, .int .i64 (n2 : Int)), (32, .slice (some ⟨b, off, none⟩) n2 k2), (4, .pointer (some ⟨g2, 0, none⟩)), (3, .int .i64 0), (2, .string ⟨#[]⟩), (1, .pointer (some ⟨g1, 0, none⟩))] (XK.meet ⟨by rw [hab1]; rfl, rfl, rfl⟩)
        rintro _ _ _ ⟨rfl, rfl, rfl⟩

        refine XK.draw 7 (by kernel_rfl) (by kernel_rfl) ?_
        refine XA.dA 0 rfl rfl rfl (does_move rfl) ?_
        refine XA.dA 1 rfl rfl rfl (does_field (off := 1) (by kernel_rfl) rfl) ?_
        refine XA.dA 2 rfl rfl rfl (does_ld rfl) ?_
        refine XA.dA 4 rfl rfl rfl (does_field (off := 2) (by kernel_rfl) rfl) ?_
        refine XA.dA 5 rfl rfl rfl (does_ld rfl) ?_
        refine XA.next 3 rfl (by kernel_rfl) ?_
        refine xk_callR (f := 34) (fi := []) (ca := []) (by kernel_rfl) rfl rfl (by decide) (fun w1 st => itoa_ok c.delay hx2 w1 (PowTab.go htab (st.below (by simp)))) ?_
        refine XA.bk ?_
        refine XA.next 6 rfl (by kernel_rfl) ?_
        refine xk_callR (f := 35) (fi := []) (ca := []) (by kernel_rfl) rfl rfl (by decide) (fun w1 st => kept_ok c.ret w1) ?_
        refine XA.bk ?_
        refine XA.next 7 rfl (by kernel_rfl) ?_
        refine xk_slice (el := 9) (sz := 1) (zs := [.string ⟨#[]⟩]) (by kernel_rfl) (zeroB_of (by kernel_rfl)) (by kernel_rfl) rfl (by decide) (by decide) rfl (by simp [fillL, setN, Value.cells, List.range_succ, List.set]; rfl) (by decide) fun g5 => ?_
        refine XA.bt ?_
        refine XA.next 8 rfl (by kernel_rfl) ?_
        refine XK.still [] [0] [1, 2, 3] (by simp) rfl (by decide) (by decide) fun q hq _ _ => ?_
        have hSi : SlS q 1 (some ⟨g5, 0, none⟩) 4 (strCells ((domW c).map strOf)) := by
          obtain ⟨F, hF, hZ⟩ := hq 0 _ (by simp) rfl
          exact SlS.of_blk (Y := q.Z) (w := q.w) (c := 4) hF hZ rfl
        obtain ⟨hpre, suf, hsuf⟩ := preD_next hc
        have hstep := pre_step (Item.dom c) hsuf
        refine xk_callE 1 (f := 32) (fi := []) (ca := []) (HP.bldr g2 (itemsT (preD s k) ++ (joinW ((Item.dom c)).words ++ [10]))) (by kernel_rfl) rfl rfl rfl ⟨by decide, rfl⟩ (fun w1 F1 st hs hl hq => line_ok g2 _ ((Item.dom c)).words _ 4 4 w1 F1 hs hl (hSi.le (hq _ (by simp))) rfl (by omega) (by omega) (by omega) (by omega)) ?_
        dsimp only [List.set]
        rw [← itemsT_one, ← itemsT_app, ← hpre]
        refine XA.bt ?_
        refine XA.done (by kernel_rfl) ?_
        refine XK.norm ?_

        refine XK.region ?_
        refine xk_add rfl rfl (wrap_in (by omega)) (by decide) ?_
        refine xk_move rfl (by decide) ?_
        refine XK.nilN ?_
        exact XK.weak [1, 2] rfl (by decide) (by simp) (XK.envS [(34, .int .i64 ((k + 1 : Nat) : Int)), (33, .int .i64 (n2 : Int)), (32, .slice (some ⟨b, off, none⟩) n2 k2), (4, .pointer (some ⟨g2, 0, none⟩)), (3, .int .i64 0), (2, .string ⟨#[]⟩), (1, .pointer (some ⟨g1, 0, none⟩))] (XK.round _ (by omega) ⟨k + 1, by omega, rfl, rfl, rfl, rfl⟩))
      ·
        refine XK.exit ?_
        refine XK.norm ?_
        refine XK.seq ?_
        refine XK.seq ?_
        have hke : k = s.domains.length := by omega
        subst hke
        rw [preD_all]

        refine XK.region ?_
        refine xk_field (off := 2) (by kernel_rfl) rfl (by decide) ?_
        refine xk_ld rfl ?_
        refine xk_len (el := 71) (by kernel_rfl) rfl (by decide) ?_
        refine xk_move rfl (by decide) ?_
        refine XK.nilN ?_
        refine XK.envS [(57, .int .i64 0), (56, .int .i64 (n3 : Int)), (55, .slice A3 n3 k3), (4, .pointer (some ⟨g2, 0, none⟩)), (3, .int .i64 0), (2, .string ⟨#[]⟩), (1, .pointer (some ⟨g1, 0, none⟩))] ?_
        refine XK.block ?_
        refine XK.loop (fun m e R H => ∃ k : Nat, k ≤ n3 ∧ m = n3 - k ∧ e = [(57, .int .i64 (k : Int)), (56, .int .i64 (n3 : Int)), (55, .slice A3 n3 k3), (4, .pointer (some ⟨g2, 0, none⟩)), (3, .int .i64 0), (2, .string ⟨#[]⟩), (1, .pointer (some ⟨g1, 0, none⟩))] ∧ R = [all w] ∧ H = [HP.bldr g2 (itemsT (preR s k)), HP.blk g1 28 [.slice A1 n1 k1, .slice A2 n2 k2, .slice A3 n3 k3, .slice A4 n4 k4]]) n3 ⟨0, by omega, by omega, rfl, rfl, rfl⟩ fun m e R H hI => ?_
        obtain ⟨k, hkn, rfl, rfl, rfl, rfl⟩ := hI
        refine XK.seq ?_

        refine XK.region ?_
        refine xk_lss rfl rfl (by decide) ?_
        refine XK.nilN ?_
        refine XK.seq ?_
        refine XK.if_ rfl (fun hlt => ?_) (fun hlt => ?_)
        ·
          refine XK.skip ?_
          refine XK.norm ?_
          refine XK.seq ?_
          refine XK.block ?_
          refine XK.seq ?_
          have hks : k < n3 := by omega
          obtain ⟨c, hc⟩ : ∃ c, s.resets[k]? = some c := ⟨_, List.getElem?_eq_getElem (by omega)⟩
          have hcm := List.mem_of_getElem? hc
          obtain ⟨b, off, r, rfl, _, rfl, hro⟩ := hW.rst.row hc
          have hx1 := h64.resets c hcm

          refine XK.region ?_
          refine xk_at (k) (off + k * 1) (el := 71) (sz := 1) (by kernel_rfl) (by kernel_rfl) rfl rfl (by omega) (by omega) (by omega) (by decide) ?_
          refine xk_ldN 1 rfl ?_
          refine xk_alloc (cs := [.int .i64 0]) (zeroB_of (by kernel_rfl)) (by decide) fun g6 => ?_
          (first | (refine xk_storeN 0 rfl rfl rfl (by kernel_rfl) (by simp [Value.cells, Value.oneCell']) (by simp [Value.cells]) ?_) | (refine xk_storeN 1 rfl rfl rfl (by kernel_rfl) (by simp [Value.cells, Value.oneCell']) (by simp [Value.cells]) ?_) | (refine xk_storeN 2 rfl rfl rfl (by kernel_rfl) (by simp [Value.cells, Value.oneCell']) (by simp [Value.cells]) ?_) | (refine xk_storeN 3 rfl rfl rfl (by kernel_rfl) (by simp [Value.cells, Value.oneCell']) (by simp [Value.cells]) ?_) | (refine xk_storeN 4 rfl rfl rfl (by kernel_rfl) (by simp [Value.cells, Value.oneCell']) (by simp [Value.cells]) ?_) | (refine xk_storeN 5 rfl rfl rfl (by kernel_rfl) (by simp [Value.cells, Value.oneCell']) (by simp [Value.cells]) ?_) | (refine xk_storeN 6 rfl rfl rfl (by kernel_rfl) (by simp [Value.cells, Value.oneCell']) (by simp [Value.cells]) ?_) | (refine xk_storeN 7 rfl rfl rfl (by kernel_rfl) (by simp [Value.cells, Value.oneCell']) (by simp [Value.cells]) ?_) | (refine xk_storeN 8 rfl rfl rfl (by kernel_rfl) (by simp [Value.cells, Value.oneCell']) (by simp [Value.cells]) ?_)); simp only [putN, Value.cells, List.set, List.take, List.drop, List.nil_append, List.append_nil, List.length_cons, List.length_nil, List.cons_append, Nat.reduceAdd]
          refine XK.nilN ?_

          refine XK.region ?_
          refine xk_field (off := 0) (by kernel_rfl) rfl (by decide) ?_
          refine xk_ld rfl ?_
          refine xk_callR (f := 34) (fi := []) (ca := []) (by kernel_rfl) rfl rfl (by decide) (fun w1 st => itoa_ok c hx1 w1 (PowTab.go htab (st.below (by simp)))) ?_
          refine xk_slice (el := 9) (sz := 1) (zs := [.string ⟨#[]⟩]) (by kernel_rfl) (zeroB_of (by kernel_rfl)) (by kernel_rfl) rfl (by decide) (by decide) rfl (by simp [fillL, setN, Value.cells, List.range_succ, List.set]; rfl) (by decide) fun g7 => ?_
          refine XK.still [] [0] [1, 2, 3] (by simp) rfl (by decide) (by decide) fun q hq _ _ => ?_
          have hSi : SlS q 1 (some ⟨g7, 0, none⟩) 2 (strCells ((resW c).map strOf)) := by
            obtain ⟨F, hF, hZ⟩ := hq 0 _ (by simp) rfl
            exact SlS.of_blk (Y := q.Z) (w := q.w) (c := 2) hF hZ rfl
          obtain ⟨hpre, suf, hsuf⟩ := preR_next hc
          have hstep := pre_step (Item.res c) hsuf
          refine xk_callE 1 (f := 32) (fi := []) (ca := []) (HP.bldr g2 (itemsT (preR s k) ++ (joinW ((Item.res c)).words ++ [10]))) (by kernel_rfl) rfl rfl rfl ⟨by decide, rfl⟩ (fun w1 F1 st hs hl hq => line_ok g2 _ ((Item.res c)).words _ 2 2 w1 F1 hs hl (hSi.le (hq _ (by simp))) rfl (by omega) (by omega) (by omega) (by omega)) ?_
          dsimp only [List.set]
          rw [← itemsT_one, ← itemsT_app, ← hpre]
          refine XK.nilN ?_

          refine XK.region ?_
          refine xk_add rfl rfl (wrap_in (by omega)) (by decide) ?_
          refine xk_move rfl (by decide) ?_
          refine XK.nilN ?_
          exact XK.weak [1, 2] rfl (by decide) (by simp) (XK.envS [(57, .int .i64 ((k + 1 : Nat) : Int)), (56, .int .i64 (n3 : Int)), (55, .slice (some ⟨b, off, none⟩) n3 k3), (4, .pointer (some ⟨g2, 0, none⟩)), (3, .int .i64 0), (2, .string ⟨#[]⟩), (1, .pointer (some ⟨g1, 0, none⟩))] (XK.round _ (by omega) ⟨k + 1, by omega, rfl, rfl, rfl, rfl⟩))
        ·
          refine XK.exit ?_
          refine XK.norm ?_
          refine XK.seq ?_
          refine XK.seq ?_
          have hke : k = s.resets.length := by omega
          subst hke
          rw [preR_all]

          refine XK.region ?_
          refine xk_field (off := 3) (by kernel_rfl) rfl (by decide) ?_
          refine xk_ld rfl ?_
          refine xk_len (el := 51) (by kernel_rfl) rfl (by decide) ?_
          refine xk_move rfl (by decide) ?_
          refine XK.nilN ?_
          refine XK.envS [(70, .int .i64 0), (69, .int .i64 (n4 : Int)), (68, .slice A4 n4 k4), (4, .pointer (some ⟨g2, 0, none⟩)), (3, .int .i64 0), (2, .string ⟨#[]⟩), (1, .pointer (some ⟨g1, 0, none⟩))] ?_
          refine XK.block ?_
          refine XK.loop (fun m e R H => ∃ k : Nat, k ≤ n4 ∧ m = n4 - k ∧ e = [(70, .int .i64 (k : Int)), (69, .int .i64 (n4 : Int)), (68, .slice A4 n4 k4), (4, .pointer (some ⟨g2, 0, none⟩)), (3, .int .i64 0), (2, .string ⟨#[]⟩), (1, .pointer (some ⟨g1, 0, none⟩))] ∧ R = [all w] ∧ H = [HP.bldr g2 (itemsT (preV s k)), HP.blk g1 28 [.slice A1 n1 k1, .slice A2 n2 k2, .slice A3 n3 k3, .slice A4 n4 k4]]) n4 ⟨0, by omega, by omega, rfl, rfl, rfl⟩ fun m e R H hI => ?_
          obtain ⟨k, hkn, rfl, rfl, rfl, rfl⟩ := hI
          refine XK.seq ?_

          refine XK.region ?_
          refine xk_lss rfl rfl (by decide) ?_
          refine XK.nilN ?_
          refine XK.seq ?_
          refine XK.if_ rfl (fun hlt => ?_) (fun hlt => ?_)
          ·
            refine XK.skip ?_
            refine XK.norm ?_
            refine XK.seq ?_
            refine XK.block ?_
            refine XK.seq ?_
            have hks : k < n4 := by omega
            obtain ⟨d, hd⟩ : ∃ d, s.devs[k]? = some d := ⟨_, List.getElem?_eq_getElem (by omega)⟩
            have hdm := List.mem_of_getElem? hd
            obtain ⟨b, off, r, rfl, _, ⟨Ar, nr, kr, Ad, nd, kd, rfl, hnr, hnd, hSr, hSd⟩, hro⟩ := hW.dev.row hd
            obtain ⟨hx1, hx2, hx3, hx4, hx5, hx6⟩ := h64.devs d hdm
            have hsm := hW.small.2.2.2.2.2 d hdm
            have hrg := hregs d hdm

            refine XK.region ?_
            refine xk_at (k) (off + k * 6) (el := 51) (sz := 6) (by kernel_rfl) (by kernel_rfl) rfl rfl (by omega) (by omega) (by omega) (by decide) ?_
            refine xk_ldN 6 rfl ?_
            refine xk_alloc (cs := [.int .i64 0, .int .i64 0, .int .i64 0, .int .u32 0, .slice none 0 0, .slice none 0 0]) (zeroB_of (by kernel_rfl)) (by decide) fun g8 => ?_
            (first | (refine xk_storeN 0 rfl rfl rfl (by kernel_rfl) (by simp [Value.cells, Value.oneCell']) (by simp [Value.cells]) ?_) | (refine xk_storeN 1 rfl rfl rfl (by kernel_rfl) (by simp [Value.cells, Value.oneCell']) (by simp [Value.cells]) ?_) | (refine xk_storeN 2 rfl rfl rfl (by kernel_rfl) (by simp [Value.cells, Value.oneCell']) (by simp [Value.cells]) ?_) | (refine xk_storeN 3 rfl rfl rfl (by kernel_rfl) (by simp [Value.cells, Value.oneCell']) (by simp [Value.cells]) ?_) | (refine xk_storeN 4 rfl rfl rfl (by kernel_rfl) (by simp [Value.cells, Value.oneCell']) (by simp [Value.cells]) ?_) | (refine xk_storeN 5 rfl rfl rfl (by kernel_rfl) (by simp [Value.cells, Value.oneCell']) (by simp [Value.cells]) ?_) | (refine xk_storeN 6 rfl rfl rfl (by kernel_rfl) (by simp [Value.cells, Value.oneCell']) (by simp [Value.cells]) ?_) | (refine xk_storeN 7 rfl rfl rfl (by kernel_rfl) (by simp [Value.cells, Value.oneCell']) (by simp [Value.cells]) ?_) | (refine xk_storeN 8 rfl rfl rfl (by kernel_rfl) (by simp [Value.cells, Value.oneCell']) (by simp [Value.cells]) ?_)); simp only [putN, Value.cells, List.set, List.take, List.drop, List.nil_append, List.append_nil, List.length_cons, List.length_nil, List.cons_append, Nat.reduceAdd]
            refine XK.nilN ?_
            refine XK.seq ?_

            refine XK.region ?_
            refine xk_slice (el := 9) (sz := 1) (zs := [.string ⟨#[]⟩]) (by kernel_rfl) (zeroB_of (by kernel_rfl)) (by kernel_rfl) rfl (by decide) (by decide) rfl (by simp [fillL, setN, Value.cells, List.range_succ, List.set]; rfl) (by decide) fun g9 => ?_
            refine xk_field (off := 0) (by kernel_rfl) rfl (by decide) ?_
            refine xk_ld rfl ?_
            refine xk_field (off := 1) (by kernel_rfl) rfl (by decide) ?_
            refine xk_ld rfl ?_
            refine xk_field (off := 2) (by kernel_rfl) rfl (by decide) ?_
            refine xk_ld rfl ?_
            refine xk_slice (el := 3) (sz := 1) (zs := [.int .i64 0]) (by kernel_rfl) (zeroB_of (by kernel_rfl)) (by kernel_rfl) rfl (by decide) (by decide) rfl (by simp [fillL, setN, Value.cells, List.range_succ, List.set]; rfl) (by decide) fun g10 => ?_
            refine xk_call (f := 36) (fi := []) (ca := []) [] (by kernel_rfl) rfl rfl (by decide) (by simp) (fun v w w' => WrdOk (wrdS [d.clock, d.domain, d.reset]) v w w') (fun w1 st => ints_ok [d.clock, d.domain, d.reset] _ _ _ w1 (by obtain ⟨B, hB⟩ := sl_blk (sz := 1) (m := 3) 0 rfl rfl w1 st; exact SlS.ofB hB) rfl (by omega) (by intro x hx; simp at hx; rcases hx with rfl | rfl | rfl <;> assumption) (PowTab.go htab (st.below (by simp)))) fun v w1 q hv hq _ _ => ?_
            obtain ⟨Ai, ci, rfl, hci, hSi⟩ := hv
            rw [wrdS_len] at hci hSi ⊢
            have hSi := SlS.le hSi hq
            refine XK.asOwn 1 1 1 rfl rfl (by omega) ?_
            dsimp only [List.set]
            rw [show ([.string ⟨#[100, 101, 118, 105, 99, 101]⟩] : List Value) = strCells [strOf kwV] from rfl]
            refine xk_appendT 1 1 16 3 (n' := 4) (el := 9) (by kernel_rfl) (by kernel_rfl) (by decide) rfl rfl rfl (sl_ro (p := q) (by simp) hSi) (strCells_cell _) rfl (by omega) (by omega) (by decide) fun A5 c5 => ?_
            dsimp only [List.set]
            rw [strCells_app]
            refine xk_assign rfl (by decide) ?_
            refine XK.nilN ?_
            refine XK.seq ?_

            refine XK.region ?_
            refine xk_move rfl (by decide) ?_
            refine xk_field (off := 3) (by kernel_rfl) rfl (by decide) ?_
            refine xk_ld rfl ?_
            refine xk_callR (f := 37) (fi := []) (ca := []) (by kernel_rfl) rfl rfl (by decide) (fun w1 st => word32_ok d.clamp hx4 w1 (PowTab.go htab (st.below (by simp)))) ?_
            refine xk_slice (el := 9) (sz := 1) (zs := [.string ⟨#[]⟩]) (by kernel_rfl) (zeroB_of (by kernel_rfl)) (by kernel_rfl) rfl (by decide) (by decide) rfl (by simp [fillL, setN, Value.cells, List.range_succ, List.set]; rfl) (by decide) fun g11 => ?_
            refine xk_appendT 2 1 16 1 (n' := 5) (el := 9) (by kernel_rfl) (by kernel_rfl) (by decide) rfl rfl rfl (sl_blk 0 rfl rfl) (news := strCells (wrdS [d.clamp])) (strCells_cell _) rfl (by omega) (by omega) (by decide) fun A6 c6 => ?_
            dsimp only [List.set]
            rw [strCells_app]
            refine xk_assign rfl (by decide) ?_
            refine XK.nilN ?_
            refine XK.seq ?_

            refine XK.region ?_
            refine xk_move rfl (by decide) ?_
            refine xk_field (off := 5) (by kernel_rfl) rfl (by decide) ?_
            refine xk_ld rfl ?_
            refine xk_call (f := 36) (fi := []) (ca := []) [] (by kernel_rfl) rfl rfl (by decide) (by simp) (fun v w w' => WrdOk (wrdS d.needs) v w w') (fun w1 st => ints_ok d.needs _ _ _ w1 (SlS.le hSd (st.le (p := all w) (by simp))) hnd.symm (by omega) hx5 (PowTab.go htab (st.below (by simp)))) fun v w1 q hv hq _ _ => ?_
            obtain ⟨Ai, ci, rfl, hci, hSi⟩ := hv
            rw [wrdS_len] at hci hSi ⊢
            have hSi := SlS.le hSi hq
            refine xk_appendT 2 1 16 d.needs.length (n' := 5 + d.needs.length) (el := 9) (by kernel_rfl) (by kernel_rfl) (by decide) rfl rfl rfl (sl_ro (p := q) (by simp) hSi) (strCells_cell _) rfl (by omega) (by omega) (by decide) fun A7 c7 => ?_
            dsimp only [List.set]
            rw [strCells_app]
            have hdw : (Item.dev d.bare).words.map strOf = [strOf kwV] ++ wrdS [d.clock, d.domain, d.reset] ++ wrdS [d.clamp] ++ wrdS d.needs := by simp [Item.words, devW, wrdS, Dev.bare]
            have hdl : (Item.dev d.bare).words.length = 5 + d.needs.length := by simp [Item.words, devW, Dev.bare]; omega
            refine XK.still [] [2] [3, 4, 5] (by simp) rfl (by decide) (by decide) fun q3 hq3 _ _ => ?_
            obtain ⟨F3, hF3, hZ3⟩ := hq3 2 _ (by simp) rfl
            have hcap3 := own_cap hF3
            have hS3 := SlS.own (q := q3) ⟨F3, hF3, hZ3⟩
            rw [← hdw] at hS3
            obtain ⟨suf, hsuf⟩ := preV_dev hd
            have hstep := pre_step (Item.dev d.bare) hsuf
            refine xk_callE 1 (f := 32) (fi := []) (ca := []) (HP.bldr g2 (itemsT (preV s k) ++ (joinW ((Item.dev d.bare)).words ++ [10]))) (by kernel_rfl) rfl rfl rfl ⟨by decide, rfl⟩ (fun w1 F1 st hs hl hq => line_ok g2 _ ((Item.dev d.bare)).words A7 _ c7 w1 F1 hs hl (hS3.le (hq _ (by simp))) hdl (by omega) hcap3 (by omega) (by omega)) ?_
            dsimp only [List.set]
            rw [← itemsT_one, ← itemsT_app, ]
            refine XK.nilN ?_
            refine XK.seq ?_
            refine XK.weakR (R' := [all w]) (by simp) ?_
            rw [show preV s k ++ [Item.dev d.bare] = preG s k d 0 from by simp [preG]]

            refine XK.region ?_
            refine xk_field (off := 4) (by kernel_rfl) rfl (by decide) ?_
            refine xk_ld rfl ?_
            refine xk_len (el := 57) (by kernel_rfl) rfl (by decide) ?_
            refine xk_move rfl (by decide) ?_
            refine XK.nilN ?_
            refine XK.envS [(99, .int .i64 0), (98, .int .i64 (nr : Int)), (97, .slice Ar nr kr), (70, .int .i64 (k : Int)), (69, .int .i64 (n4 : Int)), (68, .slice (some ⟨b, off, none⟩) n4 k4), (4, .pointer (some ⟨g2, 0, none⟩)), (3, .int .i64 0), (2, .string ⟨#[]⟩), (1, .pointer (some ⟨g1, 0, none⟩))] ?_
            refine XK.weak [1, 2] rfl (by decide) (fun _ h => h) ?_
            refine XK.block ?_
            refine XK.loop (fun m e R H => ∃ j : Nat, j ≤ nr ∧ m = nr - j ∧ e = [(99, .int .i64 (j : Int)), (98, .int .i64 (nr : Int)), (97, .slice Ar nr kr), (70, .int .i64 (k : Int)), (69, .int .i64 (n4 : Int)), (68, .slice (some ⟨b, off, none⟩) n4 k4), (4, .pointer (some ⟨g2, 0, none⟩)), (3, .int .i64 0), (2, .string ⟨#[]⟩), (1, .pointer (some ⟨g1, 0, none⟩))] ∧ R = [all w] ∧ H = [HP.bldr g2 (itemsT (preG s k d j)), HP.blk g1 28 [.slice A1 n1 k1, .slice A2 n2 k2, .slice A3 n3 k3, .slice (some ⟨b, off, none⟩) n4 k4]]) nr ⟨0, by omega, by omega, rfl, rfl, rfl⟩ fun m e R H hI => ?_
            obtain ⟨j, hjn, rfl, rfl, rfl, rfl⟩ := hI
            refine XK.seq ?_

            refine XK.region ?_
            refine xk_lss rfl rfl (by decide) ?_
            refine XK.nilN ?_
            refine XK.seq ?_
            refine XK.if_ rfl (fun hltj => ?_) (fun hltj => ?_)
            ·
              refine XK.skip ?_
              refine XK.norm ?_
              refine XK.seq ?_
              refine XK.block ?_
              refine XK.seq ?_
              have hjs : j < nr := by omega
              obtain ⟨r0, hr0⟩ : ∃ r0, d.regs[j]? = some r0 := ⟨_, List.getElem?_eq_getElem (by omega)⟩
              have hr0m := List.mem_of_getElem? hr0
              obtain ⟨hy1, hy2⟩ := hx6 r0 hr0m
              have hSr' : SlS (all w) 2 Ar nr (d.regs.map Rg.cells).flatten := by rw [← List.flatMap_def]; exact hSr
              obtain ⟨b2, off2, rfl, hro2⟩ := SlS.row hSr' (by intro r hr; rw [List.mem_map] at hr; obtain ⟨x, _, rfl⟩ := hr; rfl) (k := j) (r := [.int .u32 r0.reset, .bool r0.kept]) (by rw [List.getElem?_map, hr0]; rfl) (by omega)

              refine XK.region ?_
              refine xk_at (j) (off2 + j * 2) (el := 57) (sz := 2) (by kernel_rfl) (by kernel_rfl) rfl rfl (by omega) (by omega) (by omega) (by decide) ?_
              refine xk_ldN 2 rfl ?_
              refine xk_alloc (cs := [.int .u32 0, .bool false]) (zeroB_of (by kernel_rfl)) (by decide) fun g12 => ?_
              (first | (refine xk_storeN 0 rfl rfl rfl (by kernel_rfl) (by simp [Value.cells, Value.oneCell']) (by simp [Value.cells]) ?_) | (refine xk_storeN 1 rfl rfl rfl (by kernel_rfl) (by simp [Value.cells, Value.oneCell']) (by simp [Value.cells]) ?_) | (refine xk_storeN 2 rfl rfl rfl (by kernel_rfl) (by simp [Value.cells, Value.oneCell']) (by simp [Value.cells]) ?_) | (refine xk_storeN 3 rfl rfl rfl (by kernel_rfl) (by simp [Value.cells, Value.oneCell']) (by simp [Value.cells]) ?_) | (refine xk_storeN 4 rfl rfl rfl (by kernel_rfl) (by simp [Value.cells, Value.oneCell']) (by simp [Value.cells]) ?_) | (refine xk_storeN 5 rfl rfl rfl (by kernel_rfl) (by simp [Value.cells, Value.oneCell']) (by simp [Value.cells]) ?_) | (refine xk_storeN 6 rfl rfl rfl (by kernel_rfl) (by simp [Value.cells, Value.oneCell']) (by simp [Value.cells]) ?_) | (refine xk_storeN 7 rfl rfl rfl (by kernel_rfl) (by simp [Value.cells, Value.oneCell']) (by simp [Value.cells]) ?_) | (refine xk_storeN 8 rfl rfl rfl (by kernel_rfl) (by simp [Value.cells, Value.oneCell']) (by simp [Value.cells]) ?_)); simp only [putN, Value.cells, List.set, List.take, List.drop, List.nil_append, List.append_nil, List.length_cons, List.length_nil, List.cons_append, Nat.reduceAdd]
              refine XK.nilN ?_

              refine XK.draw 5 (by kernel_rfl) (by kernel_rfl) ?_
              refine XA.dA 0 rfl rfl rfl (does_field (off := 0) (by kernel_rfl) rfl) ?_
              refine XA.dA 1 rfl rfl rfl (does_ld rfl) ?_
              refine XA.dA 3 rfl rfl rfl (does_field (off := 1) (by kernel_rfl) rfl) ?_
              refine XA.dA 4 rfl rfl rfl (does_ld rfl) ?_
              refine XA.next 2 rfl (by kernel_rfl) ?_
              refine xk_callR (f := 37) (fi := []) (ca := []) (by kernel_rfl) rfl rfl (by decide) (fun w1 st => word32_ok r0.reset ⟨hy1, hy2⟩ w1 (PowTab.go htab (st.below (by simp)))) ?_
              refine XA.bk ?_
              refine XA.next 5 rfl (by kernel_rfl) ?_
              refine xk_callR (f := 35) (fi := []) (ca := []) (by kernel_rfl) rfl rfl (by decide) (fun w1 st => kept_ok r0.kept w1) ?_
              refine XA.bt ?_
              refine XA.next 6 rfl (by kernel_rfl) ?_
              refine xk_slice (el := 9) (sz := 1) (zs := [.string ⟨#[]⟩]) (by kernel_rfl) (zeroB_of (by kernel_rfl)) (by kernel_rfl) rfl (by decide) (by decide) rfl (by simp [fillL, setN, Value.cells, List.range_succ, List.set]; rfl) (by decide) fun g13 => ?_
              refine XA.bt ?_
              refine XA.next 7 rfl (by kernel_rfl) ?_
              refine XK.still [] [0] [1, 2, 3] (by simp) rfl (by decide) (by decide) fun q hq _ _ => ?_
              have hSi : SlS q 1 (some ⟨g13, 0, none⟩) 3 (strCells ((rgW r0).map strOf)) := by
                obtain ⟨F, hF, hZ⟩ := hq 0 _ (by simp) rfl
                exact SlS.of_blk (Y := q.Z) (w := q.w) (c := 3) hF hZ rfl
              obtain ⟨hpre, suf, hsuf⟩ := preG_next hd hr0
              have hstep := pre_step (Item.reg r0) hsuf
              refine xk_callE 1 (f := 32) (fi := []) (ca := []) (HP.bldr g2 (itemsT (preG s k d j) ++ (joinW ((Item.reg r0)).words ++ [10]))) (by kernel_rfl) rfl rfl rfl ⟨by decide, rfl⟩ (fun w1 F1 st hs hl hq => line_ok g2 _ ((Item.reg r0)).words _ 3 3 w1 F1 hs hl (hSi.le (hq _ (by simp))) rfl (by omega) (by omega) (by omega) (by omega)) ?_
              dsimp only [List.set]
              rw [← itemsT_one, ← itemsT_app, ← hpre]
              refine XA.bt ?_
              refine XA.done (by kernel_rfl) ?_
              refine XK.norm ?_

              refine XK.region ?_
              refine xk_add rfl rfl (wrap_in (by omega)) (by decide) ?_
              refine xk_move rfl (by decide) ?_
              refine XK.nilN ?_
              exact XK.weak [1, 2] rfl (by decide) (by simp) (XK.envS [(99, .int .i64 ((j + 1 : Nat) : Int)), (98, .int .i64 (nr : Int)), (97, .slice (some ⟨b2, off2, none⟩) nr kr), (70, .int .i64 (k : Int)), (69, .int .i64 (n4 : Int)), (68, .slice (some ⟨b, off, none⟩) n4 k4), (4, .pointer (some ⟨g2, 0, none⟩)), (3, .int .i64 0), (2, .string ⟨#[]⟩), (1, .pointer (some ⟨g1, 0, none⟩))] (XK.round _ (by omega) ⟨j + 1, by omega, rfl, rfl, rfl, rfl⟩))
            ·
              refine XK.exit ?_
              refine XK.norm ?_
              have hje : j = d.regs.length := by omega
              subst hje
              rw [← preV_next hd]

              refine XK.region ?_
              refine xk_add rfl rfl (wrap_in (by omega)) (by decide) ?_
              refine xk_move rfl (by decide) ?_
              refine XK.nilN ?_
              exact XK.envS [(70, .int .i64 ((k + 1 : Nat) : Int)), (69, .int .i64 (n4 : Int)), (68, .slice (some ⟨b, off, none⟩) n4 k4), (4, .pointer (some ⟨g2, 0, none⟩)), (3, .int .i64 0), (2, .string ⟨#[]⟩), (1, .pointer (some ⟨g1, 0, none⟩))] (XK.round _ (by omega) ⟨k + 1, by omega, rfl, rfl, rfl, rfl⟩)
          ·
            refine XK.exit ?_
            refine XK.norm ?_
            refine XK.seq ?_
            have hke : k = s.devs.length := by omega
            subst hke
            rw [preV_all]

            refine XK.region ?_
            refine xk_bldEnd 0 (f := 38) (fi := []) (ca := []) (b := g2) (l := printF s) (v := .string (strOf (printF s))) (by kernel_rfl) rfl rfl rfl (by decide) (by simp) (fun w1 hB => (Tryz.Builder_String_any w.heap.size g2 (printF s) w1 hB.1 hB.2).mono fun y w2 hy => ⟨hy.1, hy.2⟩) ?_
            refine xk_assign rfl (by decide) ?_
            refine xk_assign rfl (by decide) ?_
            refine XK.nilN ?_
            refine XK.ret ?_
            refine XK.norm ?_
            exact XK.ret2 rfl rfl rfl fun w1 st => ⟨by rw [if_pos hchk, if_pos hchk], st.below (by simp)⟩

end Go.Proofs.YtgopaoidgcgalaaGreatDoor
/- A graph in which all sources are lesser ones: its order is 0, 1, 2, .. No program in sight. -/
namespace Go.Proofs.YtgopaoidgcgalaaGreatDoor
set_option linter.all false
def LessG (g : List (List Int)) : Prop := ∀ (k : Nat) (l : List Int), g[k]? = some l → ∀ u ∈ l, 0 ≤ u ∧ u < (k : Int)
theorem LessG.in {g : List (List Int)} (h : LessG g) : InG g := by
  intro l hl u hu
  obtain ⟨k, hk⟩ := List.getElem?_of_mem hl
  have := h k l hk u hu
  have := (List.getElem?_eq_some_iff.1 hk).1
  omega
theorem LessG.next {g : List (List Int)} (h : LessG g) {k : Nat} (hk : k < g.length) : nextG g (List.range k) = some k := by
  refine nextG_some hk (fun j hj => okN_met (by simpa using hj)) ?_
  unfold okN
  obtain ⟨l, hl⟩ : ∃ l, g[k]? = some l := ⟨_, List.getElem?_eq_getElem hk⟩
  rw [hl]
  simp only [Option.getD_some, Bool.and_eq_true, Bool.not_eq_true', List.all_eq_true]
  refine ⟨by simp, fun u hu => ?_⟩
  have := h k l hl u hu
  simp; omega
theorem LessG.order {g : List (List Int)} (h : LessG g) : ∀ (m k : Nat), k + m = g.length → orderG g m (List.range k) = some (List.range g.length)
  | 0, k, hk => by rw [orderG]; simp at hk; rw [hk]
  | m + 1, k, hk => by
    rw [orderG, h.next (by omega)]
    have := LessG.order h m (k + 1) (by omega)
    rw [List.range_succ] at this
    exact this
theorem LessG.orderE {g : List (List Int)} (h : LessG g) (hl : g.length ≤ 100) : orderE g = (0, List.range g.length) := by
  have h1 : badG g = false := badG_no fun k l hk j u hj => by
    have := h.in l (List.mem_of_getElem? hk) u (List.mem_of_getElem? hj)
    exact this
  have h2 : numbersG g = 0 := by unfold numbersG; rw [if_neg (by omega), h1]; rfl
  have h3 := h.order g.length 0 (by omega)
  unfold Go.Proofs.YtgopaoidgcgalaaGreatDoor.orderE
  rw [if_neg (by simp [h2])]
  simp only [List.range_zero] at h3
  rw [h3]
end Go.Proofs.YtgopaoidgcgalaaGreatDoor
/- A chip that is made is right; its orders are 0, 1, 2, .. No walk in sight. -/
namespace Go.Proofs.YtgopaoidgcgalaaGreatDoor
set_option linter.all false
theorem firstE_all {es : List Int} (h : ∀ e ∈ es, e = 0) : firstE es = 0 := firstE_none fun j hj => by rw [List.getElem?_eq_getElem hj, h _ (List.getElem_mem hj)]
theorem withinB_of {n lo hi : Int} (h1 : lo ≤ n) (h2 : n ≤ hi) : withinB n lo hi = true := by simp [withinB, h1, h2]
theorem whenE_of {b : Bool} {e : Int} (h : b = false) : whenE b e = 0 := by rw [h]; rfl
section
variable {s : Soc} (h : s.made)
include h
theorem made_clocks : LessG (clocksG s) := by
  intro k l hl u hu
  simp only [clocksG, List.getElem?_map, Option.map_eq_some_iff] at hl
  obtain ⟨c, hc, rfl⟩ := hl
  exact (h.clocks k c hc).1 u hu
theorem made_doms : LessG (domsG s) := by
  intro k l hl u hu
  simp only [domsG, List.getElem?_map, Option.map_eq_some_iff] at hl
  obtain ⟨d, hd, rfl⟩ := hl
  have := (h.domains k d hd).1
  split at hu
  · cases hu
  · rename_i hne
    simp at hu
    subst hu
    exact this.resolve_left hne
theorem made_needs : LessG (needsG s) := by
  intro k l hl u hu
  simp only [needsG, List.getElem?_map, Option.map_eq_some_iff] at hl
  obtain ⟨d, hd, rfl⟩ := hl
  obtain ⟨_, _, _, _, _, _, _, _, _, _, _, h1⟩ := h.devs k d hd
  exact h1 u hu
theorem made_small : s.small := by
  refine ⟨by have := h.nc; omega, by have := h.nd; omega, by have := h.nr; omega, by have := h.nv; omega, fun c hc => ?_, fun d hd => ?_⟩
  · obtain ⟨k, hk⟩ := List.getElem?_of_mem hc
    rcases (h.clocks k c hk).2 with h1 | h1 | h1 | h1 | h1
    · rw [h1.2.1]; simp
    all_goals (have := h1.2.1; omega)
  · obtain ⟨k, hk⟩ := List.getElem?_of_mem hd
    obtain ⟨_, _, _, _, _, _, _, _, _, _, h1, _⟩ := h.devs k d hk
    omega
theorem made_orders : orderE (clocksG s) = (0, List.range s.clocks.length) ∧ orderE (domsG s) = (0, List.range s.domains.length) ∧ orderE (needsG s) = (0, List.range s.devs.length) := by
  refine ⟨?_, ?_, ?_⟩
  · have := (made_clocks h).orderE (by simp [clocksG]; have := h.nc; omega)
    simpa [clocksG] using this
  · have := (made_doms h).orderE (by simp [domsG]; have := h.nd; omega)
    simpa [domsG] using this
  · have := (made_needs h).orderE (by simp [needsG]; have := h.nv; omega)
    simpa [needsG] using this
theorem made_clock {k : Nat} {c : Clk} (hc : s.clocks[k]? = some c) : clockE s.clocks.length c = 0 := by
  have hk := (List.getElem?_eq_some_iff.1 hc).1
  obtain ⟨h1, h2⟩ := h.clocks k c hc
  refine firstE_all fun e he => ?_
  simp only [List.mem_cons, List.not_mem_nil, or_false] at he
  rcases he with rfl | rfl | rfl
  · refine whenE_of ?_
    rcases h2 with h2 | h2 | h2 | h2 | h2
    · simp [shapeB, h2.1, h2.2.1]
    · simp [shapeB, h2.1, h2.2.1]
    · simp [shapeB, h2.1, h2.2.1]
    · simp [shapeB, h2.1, h2.2.1]
    · simp [shapeB, h2.1, h2.2.1, withinB]
  · refine firstE_all fun e he => ?_
    simp only [List.mem_map] at he
    obtain ⟨f, hf, rfl⟩ := he
    have := h1 f hf
    exact whenE_of (by rw [withinB_of (by omega) (by omega)]; rfl)
  · refine whenE_of ?_
    rcases h2 with h2 | h2 | h2 | h2 | h2
    · obtain ⟨h3, _, h4, h5, _⟩ := h2
      simp [numbersB, h3]; omega
    · obtain ⟨h3, _, _, h4, h5, h6, h7, h8, h9⟩ := h2
      simp [numbersB, h3, withinB]; omega
    · obtain ⟨h3, _, _, _, h4, h5, _⟩ := h2
      simp [numbersB, h3, withinB]; omega
    · simp [numbersB, h2.1]
    · simp [numbersB, h2.1]
theorem made_domain {k : Nat} {d : Dom} (hd : s.domains[k]? = some d) : domainE s.domains.length d = 0 := by
  have hk := (List.getElem?_eq_some_iff.1 hd).1
  obtain ⟨h1, h2, h3⟩ := h.domains k d hd
  refine firstE_all fun e he => ?_
  simp only [List.mem_cons, List.not_mem_nil, or_false] at he
  rcases he with rfl | rfl
  · refine whenE_of ?_
    rcases h1 with h1 | h1
    · simp [h1]
    · rw [withinB_of (by omega) (by omega)]; simp
  · exact whenE_of (by rw [withinB_of (by omega) (by omega)]; rfl)
theorem made_device {k : Nat} {d : Dev} (hd : s.devs[k]? = some d) : deviceE s.clocks.length s.domains.length s.resets.length s.devs.length d = 0 ∧ manyE d = 0 := by
  have hk := (List.getElem?_eq_some_iff.1 hd).1
  obtain ⟨a1, a2, a3, a4, a5, a6, _, _, a7, _, a8, a9⟩ := h.devs k d hd
  refine ⟨firstE_all fun e he => ?_, ?_⟩
  · simp only [List.mem_cons, List.not_mem_nil, or_false] at he
    rcases he with rfl | rfl | rfl | rfl
    · exact whenE_of (by rw [withinB_of (by omega) (by omega)]; rfl)
    · exact whenE_of (by rw [withinB_of (by omega) (by omega)]; rfl)
    · exact whenE_of (by rw [withinB_of (by omega) (by omega)]; rfl)
    · refine firstE_all fun e he => ?_
      simp only [List.mem_map] at he
      obtain ⟨f, hf, rfl⟩ := he
      have := a9 f hf
      exact whenE_of (by rw [withinB_of (by omega) (by omega)]; rfl)
  · refine whenE_of ?_
    simp
    omega
theorem made_check : checkS s = 0 := by
  obtain ⟨o1, o2, o3⟩ := made_orders h
  refine firstE_all fun e he => ?_
  simp only [checkL, List.mem_cons, List.not_mem_nil, or_false] at he
  have h1 := h.nc
  have h2 := h.nd
  have h3 := h.nr
  have h4 := h.nv
  rcases he with rfl | rfl | rfl | rfl | rfl | rfl | rfl | rfl
  · rw [fullE, if_neg (by omega)]
    refine firstE_all fun e he => ?_
    obtain ⟨d, hd, rfl⟩ := List.mem_map.1 he
    obtain ⟨k, hk⟩ := List.getElem?_of_mem hd
    exact (made_device h hk).2
  · refine firstE_all fun e he => ?_
    obtain ⟨d, hd, rfl⟩ := List.mem_map.1 he
    obtain ⟨k, hk⟩ := List.getElem?_of_mem hd
    exact made_clock h hk
  · rw [cycE, o1]; rfl
  · refine firstE_all fun e he => ?_
    obtain ⟨d, hd, rfl⟩ := List.mem_map.1 he
    obtain ⟨k, hk⟩ := List.getElem?_of_mem hd
    exact made_domain h hk
  · rw [cycE, o2]; rfl
  · refine firstE_all fun e he => ?_
    obtain ⟨d, hd, rfl⟩ := List.mem_map.1 he
    have := h.resets d hd
    exact whenE_of (by rw [withinB_of (by omega) (by omega)]; rfl)
  · refine firstE_all fun e he => ?_
    obtain ⟨d, hd, rfl⟩ := List.mem_map.1 he
    obtain ⟨k, hk⟩ := List.getElem?_of_mem hd
    exact (made_device h hk).1
  · rw [cycE, o3]; rfl
end
end Go.Proofs.YtgopaoidgcgalaaGreatDoor
/- A chip that a piece shows; rows, as a piece shows them. -/
namespace Go.Proofs.YtgopaoidgcgalaaGreatDoor
set_option linter.all false
open Go.RowKit
/-- a chip that a piece shows -/
structure SocQ (p : Piece) (s : Soc) (A1 : Option Addr) (n1 : Nat) (A2 : Option Addr) (n2 : Nat) (A3 : Option Addr) (n3 : Nat) (A4 : Option Addr) (n4 : Nat) : Prop where
  clk : RsR (slq p) (ClkR (slq p)) 55 6 A1 n1 s.clocks
  dom : RsR (slq p) DomR 69 3 A2 n2 s.domains
  rst : RsR (slq p) RstR 71 1 A3 n3 s.resets
  dev : RsR (slq p) (DevR (slq p)) 51 6 A4 n4 s.devs
section
variable {p q : Piece} {w : World} {s : Soc} {A1 A2 A3 A4 : Option Addr} {n1 n2 n3 n4 : Nat}
theorem SocQ.le (h : SocQ p s A1 n1 A2 n2 A3 n3 A4 n4) (hl : p.Le q) : SocQ q s A1 n1 A2 n2 A3 n3 A4 n4 :=
  ⟨h.clk.mono (slq_le hl) (fun _ _ => ClkR.mono (slq_le hl)), h.dom.mono (slq_le hl) (fun _ _ h => h), h.rst.mono (slq_le hl) (fun _ _ h => h), h.dev.mono (slq_le hl) (fun _ _ => DevR.mono (slq_le hl))⟩
theorem SocQ.W (h : SocQ p s A1 n1 A2 n2 A3 n3 A4 n4) (hl : p.Le (all w)) (hs : s.small) : SocW w s A1 n1 A2 n2 A3 n3 A4 n4 := ⟨(h.le hl).clk, (h.le hl).dom, (h.le hl).rst, (h.le hl).dev, hs⟩
theorem SocQ.len (h : SocQ p s A1 n1 A2 n2 A3 n3 A4 n4) : n1 = s.clocks.length ∧ n2 = s.domains.length ∧ n3 = s.resets.length ∧ n4 = s.devs.length := by
  obtain ⟨⟨_, _, h1, _⟩, ⟨_, _, h2, _⟩, ⟨_, _, h3, _⟩, ⟨_, _, h4, _⟩⟩ := h
  exact ⟨h1, h2, h3, h4⟩
theorem SocR.Q {cs : Array Value} (h : SocR (slq p) s cs) : ∃ A1 n1 k1 A2 n2 k2 A3 n3 k3 A4 n4 k4, cs = #[.slice A1 n1 k1, .slice A2 n2 k2, .slice A3 n3 k3, .slice A4 n4 k4] ∧ SocQ p s A1 n1 A2 n2 A3 n3 A4 n4 := by
  obtain ⟨A1, n1, k1, A2, n2, k2, A3, n3, k3, A4, n4, k4, h0, h1, h2, h3, h4⟩ := h
  exact ⟨A1, n1, k1, A2, n2, k2, A3, n3, k3, A4, n4, k4, h0, h1, h2, h3, h4⟩
end
theorem RsR.rowQ {α : Type} {p : Piece} {R : α → List Value → Prop} {t : TypeId} {sz n : Nat} {A : Option Addr} {es : List α} (h : RsR (slq p) R t sz A n es) {k : Nat} {e : α} (hk : es[k]? = some e) :
    ∃ b off r, A = some ⟨b, off, none⟩ ∧ p.Z b ∧ r.length = sz ∧ R e r ∧ ∀ f u, r[f]? = some u → p.w.cell? ⟨b, off + k * sz + f, none⟩ = some u := by
  obtain ⟨rows, h1, h2, h3⟩ := h
  have hlt : k < n := by
    rw [h2]
    rcases Nat.lt_or_ge k es.length with h | h
    · exact h
    · rw [List.getElem?_eq_none h] at hk; cases hk
  obtain ⟨b, off, hA, hb, hc⟩ := SlS.at_ h3 hlt
  obtain ⟨r, h4, h5, h6⟩ := h1.get hk
  refine ⟨b, off, r, hA, hb, h4, h5, fun f u hu => hc f u ?_⟩
  have hf : f < sz := by
    rw [← h4]
    rcases Nat.lt_or_ge f r.length with h | h
    · exact h
    · rw [List.getElem?_eq_none h] at hu; cases hu
  rw [h6 f hf, hu]
end Go.Proofs.YtgopaoidgcgalaaGreatDoor
/- conf.Same. -/
namespace Go.Proofs.YtgopaoidgcgalaaGreatDoor
set_option linter.all false
open Go.RowKit
noncomputable def eqB {α : Type} (a b : α) : Bool := @decide (a = b) (Classical.propDecidable _)
theorem eqB_t {α : Type} {a b : α} (h : a = b) : eqB a b = true := by unfold eqB; simpa using h
theorem eqB_f {α : Type} {a b : α} (h : ¬ a = b) : eqB a b = false := by unfold eqB; simpa using h
theorem eqB_iff {α : Type} {a b : α} : eqB a b = true ↔ a = b := by unfold eqB; simp
section
variable {P : Program} {N : Frm} {w0 : World} {e : Env} {R : List Piece} {H : List HP} {Q : Exit → Act → World → Prop} {ops : Array Oper} {rest : List Oper}
variable {d : Nat} {ty : TypeId} {pos : String} {aft : Array Edge}
theorem xk_neqV {x y : Operand} {t u : TypeId} {a b : Value} (r : Bool) (hx : e.ev x = some a) (hy : e.ev y = some b)
    (hrun : ∀ (ev : Operand → Value) (w : World), ev x = a → ev y = b → (execOp ev ⟨some d, .binOp .neq t x y u, ty, pos, aft, none⟩).run P w = .ok (.value (.bool r)) w) (hd : d < N.n) (k : XK N w0 (wpList P ops Q rest) ((d, .bool r) :: e) R H) :
    XK N w0 (wpList P ops Q (⟨some d, .binOp .neq t x y u, ty, pos, aft, none⟩ :: rest)) e R H := xk_pure hd (fun a' w hr => hrun _ w (hr.ev hx) (hr.ev hy)) k
end
theorem ext_at {α : Type} {xs ys : List α} (hl : xs.length = ys.length) (h : ∀ i, i < xs.length → xs[i]? = ys[i]?) : xs = ys := List.ext_getElem? fun i => by
  rcases Nat.lt_or_ge i xs.length with hi | hi
  · exact h i hi
  · rw [List.getElem?_eq_none hi, List.getElem?_eq_none (by omega)]
theorem Dom.eq_iff {a b : Dom} : a = b ↔ a.above = b.above ∧ a.delay = b.delay ∧ a.ret = b.ret := by cases a; cases b; simp
theorem Rg.eq_iff {a b : Rg} : a = b ↔ a.reset = b.reset ∧ a.kept = b.kept := by cases a; cases b; simp
theorem Clk.eq_iff {a b : Clk} : a = b ↔ a.kind = b.kind ∧ a.src = b.src ∧ a.rate = b.rate ∧ a.mul = b.mul ∧ a.div = b.div ∧ a.lock = b.lock := by cases a; cases b; simp
theorem Dev.eq_iff {a b : Dev} : a = b ↔ a.clock = b.clock ∧ a.domain = b.domain ∧ a.reset = b.reset ∧ a.clamp = b.clamp ∧ a.regs = b.regs ∧ a.needs = b.needs := by cases a; cases b; simp
theorem Soc.eq_iff {a b : Soc} : a = b ↔ a.clocks = b.clocks ∧ a.domains = b.domains ∧ a.resets = b.resets ∧ a.devs = b.devs := by cases a; cases b; simp
theorem eqInt_ok (xs ys : List Int) (A B : Option Addr) (n c m d : Nat) (w : World) (hx0 : SlS (all w) 1 A n (intCells xs)) (hy0 : SlS (all w) 1 B m (intCells ys)) (hn : n = xs.length) (hm : m = ys.length) (hn63 : n ≤ 100000000) :
    Calls Tryz.prog 96 #[.slice A n c, .slice B m d] w (Rt (.bool (eqB xs ys)) w) := by
  refine XK.enter (vs := [.slice A n c, .slice B m d]) Tryz.func96 rfl Tryz.ntmps96 (by simp) ?_
  refine XK.seq ?_

  refine XK.region ?_
  refine xk_assign rfl (by decide) ?_
  refine XK.nilN ?_
  refine XK.seq ?_
  refine XK.seq ?_

  refine XK.region ?_
  refine xk_move rfl (by decide) ?_
  refine xk_len (el := 3) (by kernel_rfl) rfl (by decide) ?_
  refine xk_move rfl (by decide) ?_
  refine xk_len (el := 3) (by kernel_rfl) rfl (by decide) ?_
  refine xk_neq rfl rfl (by decide) ?_
  refine XK.nilN ?_
  refine XK.if_ rfl (fun hne => ?_) (fun heq => ?_)
  ·
    refine XK.seq ?_

    refine XK.region ?_
    refine xk_assign rfl (by decide) ?_
    refine XK.nilN ?_
    refine XK.ret ?_
    refine XK.norm ?_
    have hnl : ¬ xs = ys := fun he => hne (by rw [hn, hm, he])
    exact XK.ret1 rfl rfl fun w1 st => ⟨by rw [eqB_f hnl], st.below (by simp)⟩
  ·
    refine XK.skip ?_
    refine XK.norm ?_
    refine XK.seq ?_
    refine XK.seq ?_
    have hnm : n = m := by omega
    have hxy : xs.length = ys.length := by omega

    refine XK.region ?_
    refine xk_move rfl (by decide) ?_
    refine xk_len (el := 3) (by kernel_rfl) rfl (by decide) ?_
    refine xk_move rfl (by decide) ?_
    refine XK.nilN ?_
    refine XK.envS [(13, .int .i64 0), (12, .int .i64 (n : Int)), (4, .bool false), (1, .slice B m d), (0, .slice A n c)] ?_
    refine XK.block ?_
    refine XK.loop (fun ml e R H => ∃ k : Nat, k ≤ n ∧ (∀ i, i < k → xs[i]? = ys[i]?) ∧ ml = n - k ∧ e = [(13, .int .i64 (k : Int)), (12, .int .i64 (n : Int)), (4, .bool false), (1, .slice B m d), (0, .slice A n c)] ∧ R = [all w] ∧ H = []) n ⟨0, by omega, by omega, by omega, rfl, rfl, rfl⟩ fun ml e R H hI => ?_
    obtain ⟨k, hkn, hall, rfl, rfl, rfl, rfl⟩ := hI
    refine XK.seq ?_

    refine XK.region ?_
    refine xk_lss rfl rfl (by decide) ?_
    refine XK.nilN ?_
    refine XK.seq ?_
    refine XK.if_ rfl (fun hlt => ?_) (fun hlt => ?_)
    ·
      refine XK.skip ?_
      refine XK.norm ?_
      refine XK.seq ?_
      refine XK.block ?_
      refine XK.seq ?_
      have hks : k < n := by omega
      obtain ⟨x, hx⟩ : ∃ x, xs[k]? = some x := ⟨_, List.getElem?_eq_getElem (by omega)⟩
      obtain ⟨y, hy⟩ : ∃ y, ys[k]? = some y := ⟨_, List.getElem?_eq_getElem (by omega)⟩
      obtain ⟨b1, o1, rfl, hz1, hr1⟩ := hx0.2 (by omega)
      obtain ⟨b2, o2, rfl, hz2, hr2⟩ := hy0.2 (by omega)
      have hc1 : ROc w b1 (o1 + k) (.int .i64 x) := ⟨hz1, hr1 k _ (by rw [intCells, List.getElem?_map, hx]; rfl)⟩
      have hc2 : ROc w b2 (o2 + k) (.int .i64 y) := ⟨hz2, hr2 k _ (by rw [intCells, List.getElem?_map, hy]; rfl)⟩

      refine XK.region ?_
      refine xk_move rfl (by decide) ?_
      refine xk_assign rfl (by decide) ?_
      refine XK.nilN ?_
      refine XK.seq ?_

      refine XK.draw 8 (by kernel_rfl) (by kernel_rfl) ?_
      refine XA.dA 0 rfl rfl rfl (does_move rfl) ?_
      refine XA.dA 1 rfl rfl rfl (does_move rfl) ?_
      refine XA.dA 2 rfl rfl rfl (does_at (k) (o1 + k) (el := 3) (sz := 1) (by kernel_rfl) (by kernel_rfl) rfl rfl (by omega) (by omega) (by omega)) ?_
      refine XA.dA 3 rfl rfl rfl (does_load (by kernel_rfl) rfl (Rd.roc (by simp) hc1)) ?_
      refine XA.dA 4 rfl rfl rfl (does_move rfl) ?_
      refine XA.dA 5 rfl rfl rfl (does_move rfl) ?_
      refine XA.dA 6 rfl rfl rfl (does_at (k) (o2 + k) (el := 3) (sz := 1) (by kernel_rfl) (by kernel_rfl) rfl rfl (by omega) (by omega) (by omega)) ?_
      refine XA.dA 7 rfl rfl rfl (does_load (by kernel_rfl) rfl (Rd.roc (by simp) hc2)) ?_
      refine XA.next 8 rfl (by kernel_rfl) ?_
      refine xk_neq rfl rfl (by decide) ?_
      refine XA.bt ?_
      refine XA.done (by kernel_rfl) ?_
      refine XK.norm ?_
      refine XK.if_ rfl (fun hne => ?_) (fun hne => ?_)
      ·
        refine XK.seq ?_

        refine XK.region ?_
        refine xk_assign rfl (by decide) ?_
        refine XK.nilN ?_
        refine XK.ret ?_
        refine XK.norm ?_
        have hnl : ¬ xs = ys := fun he => hne (Iff.rfl.1 (by rw [he, hy] at hx; cases hx; rfl))
        exact XK.ret1 rfl rfl fun w1 st => ⟨by rw [eqB_f hnl], st.below (by simp)⟩
      ·
        refine XK.skip ?_
        refine XK.norm ?_
        have hxe : x = y := Iff.rfl.2 (Classical.byContradiction hne)

        refine XK.region ?_
        refine xk_add rfl rfl (wrap_in (by omega)) (by decide) ?_
        refine xk_move rfl (by decide) ?_
        refine XK.nilN ?_
        exact XK.envS [(13, .int .i64 ((k + 1 : Nat) : Int)), (12, .int .i64 (n : Int)), (4, .bool false), (1, .slice (some ⟨b2, o2, none⟩) m d), (0, .slice (some ⟨b1, o1, none⟩) n c)] (XK.round _ (by omega) ⟨k + 1, by omega, fun i hi => (by rcases Nat.lt_or_ge i k with h | h; exact hall i h; rw [show i = k by omega, hx, hy, hxe]), rfl, rfl, rfl, rfl⟩)
    ·
      refine XK.exit ?_
      refine XK.norm ?_
      refine XK.seq ?_

      refine XK.region ?_
      refine xk_assign rfl (by decide) ?_
      refine XK.nilN ?_
      refine XK.ret ?_
      refine XK.norm ?_
      have hel : xs = ys := ext_at hxy fun i hi => hall i (by omega)
      exact XK.ret1 rfl rfl fun w1 st => ⟨by rw [eqB_t hel], st.below (by simp)⟩

theorem eqDom_ok (xs ys : List Dom) (A B : Option Addr) (n c m d : Nat) (w : World) (hx0 : RsR (slq (all w)) DomR 69 3 A n xs) (hy0 : RsR (slq (all w)) DomR 69 3 B m ys) (hn : n = xs.length) (hm : m = ys.length) (hn63 : n ≤ 100000000) :
    Calls Tryz.prog 45 #[.slice A n c, .slice B m d] w (Rt (.bool (eqB xs ys)) w) := by
  refine XK.enter (vs := [.slice A n c, .slice B m d]) Tryz.func45 rfl Tryz.ntmps45 (by simp) ?_
  refine XK.seq ?_

  refine XK.region ?_
  refine xk_assign rfl (by decide) ?_
  refine XK.nilN ?_
  refine XK.seq ?_
  refine XK.seq ?_

  refine XK.region ?_
  refine xk_move rfl (by decide) ?_
  refine xk_len (el := 69) (by kernel_rfl) rfl (by decide) ?_
  refine xk_move rfl (by decide) ?_
  refine xk_len (el := 69) (by kernel_rfl) rfl (by decide) ?_
  refine xk_neq rfl rfl (by decide) ?_
  refine XK.nilN ?_
  refine XK.if_ rfl (fun hne => ?_) (fun heq => ?_)
  ·
    refine XK.seq ?_

    refine XK.region ?_
    refine xk_assign rfl (by decide) ?_
    refine XK.nilN ?_
    refine XK.ret ?_
    refine XK.norm ?_
    have hnl : ¬ xs = ys := fun he => hne (by rw [hn, hm, he])
    exact XK.ret1 rfl rfl fun w1 st => ⟨by rw [eqB_f hnl], st.below (by simp)⟩
  ·
    refine XK.skip ?_
    refine XK.norm ?_
    refine XK.seq ?_
    refine XK.seq ?_
    have hnm : n = m := by omega
    have hxy : xs.length = ys.length := by omega

    refine XK.region ?_
    refine xk_move rfl (by decide) ?_
    refine xk_len (el := 69) (by kernel_rfl) rfl (by decide) ?_
    refine xk_move rfl (by decide) ?_
    refine XK.nilN ?_
    refine XK.envS [(13, .int .i64 0), (12, .int .i64 (n : Int)), (4, .bool false), (1, .slice B m d), (0, .slice A n c)] ?_
    refine XK.block ?_
    refine XK.loop (fun ml e R H => ∃ k : Nat, k ≤ n ∧ (∀ i, i < k → xs[i]? = ys[i]?) ∧ ml = n - k ∧ e = [(13, .int .i64 (k : Int)), (12, .int .i64 (n : Int)), (4, .bool false), (1, .slice B m d), (0, .slice A n c)] ∧ R = [all w] ∧ H = []) n ⟨0, by omega, by omega, by omega, rfl, rfl, rfl⟩ fun ml e R H hI => ?_
    obtain ⟨k, hkn, hall, rfl, rfl, rfl, rfl⟩ := hI
    refine XK.seq ?_

    refine XK.region ?_
    refine xk_lss rfl rfl (by decide) ?_
    refine XK.nilN ?_
    refine XK.seq ?_
    refine XK.if_ rfl (fun hlt => ?_) (fun hlt => ?_)
    ·
      refine XK.skip ?_
      refine XK.norm ?_
      refine XK.seq ?_
      refine XK.block ?_
      refine XK.seq ?_
      have hks : k < n := by omega
      obtain ⟨x, hx⟩ : ∃ x, xs[k]? = some x := ⟨_, List.getElem?_eq_getElem (by omega)⟩
      obtain ⟨y, hy⟩ : ∃ y, ys[k]? = some y := ⟨_, List.getElem?_eq_getElem (by omega)⟩
      obtain ⟨b1, o1, r1, rfl, _, rfl, hro1⟩ := hx0.row hx
      obtain ⟨b2, o2, r2, rfl, _, rfl, hro2⟩ := hy0.row hy

      refine XK.region ?_
      refine xk_move rfl (by decide) ?_
      refine xk_assign rfl (by decide) ?_
      refine XK.nilN ?_
      refine XK.seq ?_

      refine XK.draw 8 (by kernel_rfl) (by kernel_rfl) ?_
      refine XA.dA 0 rfl rfl rfl (does_move rfl) ?_
      refine XA.dA 1 rfl rfl rfl (does_move rfl) ?_
      refine XA.dA 2 rfl rfl rfl (does_at (k) (o1 + k * 3) (el := 69) (sz := 3) (by kernel_rfl) (by kernel_rfl) rfl rfl (by omega) (by omega) (by omega)) ?_
      refine XA.dA 3 rfl rfl rfl (does_ldN 3 rfl) ?_
      refine XA.dA 4 rfl rfl rfl (does_move rfl) ?_
      refine XA.dA 5 rfl rfl rfl (does_move rfl) ?_
      refine XA.dA 6 rfl rfl rfl (does_at (k) (o2 + k * 3) (el := 69) (sz := 3) (by kernel_rfl) (by kernel_rfl) rfl rfl (by omega) (by omega) (by omega)) ?_
      refine XA.dA 7 rfl rfl rfl (does_ldN 3 rfl) ?_
      refine XA.next 8 rfl (by kernel_rfl) ?_
      refine xk_neqV (decide (¬ (x.above = y.above ∧ x.delay = y.delay ∧ x.ret = y.ret))) rfl rfl (fun ev w h1 h2 => by
        by_cases g0 : x.above = y.above <;> by_cases g1 : x.delay = y.delay <;> by_cases g2 : x.ret = y.ret <;> simp [execOp, h1, h2, run_eqGuard_agg (hm := (by kernel_rfl)), run_neq_struct, run_equalIn_agg (ht := (by kernel_rfl)) (hp := (by kernel_rfl)), go_sem, *]) (by decide) ?_
      refine XA.bt ?_
      refine XA.done (by kernel_rfl) ?_
      refine XK.norm ?_
      refine XK.if_ rfl (fun hne => ?_) (fun hne => ?_)
      ·
        refine XK.seq ?_

        refine XK.region ?_
        refine xk_assign rfl (by decide) ?_
        refine XK.nilN ?_
        refine XK.ret ?_
        refine XK.norm ?_
        have hnl : ¬ xs = ys := fun he => hne (Dom.eq_iff.1 (by rw [he, hy] at hx; cases hx; rfl))
        exact XK.ret1 rfl rfl fun w1 st => ⟨by rw [eqB_f hnl], st.below (by simp)⟩
      ·
        refine XK.skip ?_
        refine XK.norm ?_
        have hxe : x = y := Dom.eq_iff.2 (Classical.byContradiction hne)

        refine XK.region ?_
        refine xk_add rfl rfl (wrap_in (by omega)) (by decide) ?_
        refine xk_move rfl (by decide) ?_
        refine XK.nilN ?_
        exact XK.envS [(13, .int .i64 ((k + 1 : Nat) : Int)), (12, .int .i64 (n : Int)), (4, .bool false), (1, .slice (some ⟨b2, o2, none⟩) m d), (0, .slice (some ⟨b1, o1, none⟩) n c)] (XK.round _ (by omega) ⟨k + 1, by omega, fun i hi => (by rcases Nat.lt_or_ge i k with h | h; exact hall i h; rw [show i = k by omega, hx, hy, hxe]), rfl, rfl, rfl, rfl⟩)
    ·
      refine XK.exit ?_
      refine XK.norm ?_
      refine XK.seq ?_

      refine XK.region ?_
      refine xk_assign rfl (by decide) ?_
      refine XK.nilN ?_
      refine XK.ret ?_
      refine XK.norm ?_
      have hel : xs = ys := ext_at hxy fun i hi => hall i (by omega)
      exact XK.ret1 rfl rfl fun w1 st => ⟨by rw [eqB_t hel], st.below (by simp)⟩

theorem eqRst_ok (xs ys : List Int) (A B : Option Addr) (n c m d : Nat) (w : World) (hx0 : RsR (slq (all w)) RstR 71 1 A n xs) (hy0 : RsR (slq (all w)) RstR 71 1 B m ys) (hn : n = xs.length) (hm : m = ys.length) (hn63 : n ≤ 100000000) :
    Calls Tryz.prog 46 #[.slice A n c, .slice B m d] w (Rt (.bool (eqB xs ys)) w) := by
  refine XK.enter (vs := [.slice A n c, .slice B m d]) Tryz.func46 rfl Tryz.ntmps46 (by simp) ?_
  refine XK.seq ?_

  refine XK.region ?_
  refine xk_assign rfl (by decide) ?_
  refine XK.nilN ?_
  refine XK.seq ?_
  refine XK.seq ?_

  refine XK.region ?_
  refine xk_move rfl (by decide) ?_
  refine xk_len (el := 71) (by kernel_rfl) rfl (by decide) ?_
  refine xk_move rfl (by decide) ?_
  refine xk_len (el := 71) (by kernel_rfl) rfl (by decide) ?_
  refine xk_neq rfl rfl (by decide) ?_
  refine XK.nilN ?_
  refine XK.if_ rfl (fun hne => ?_) (fun heq => ?_)
  ·
    refine XK.seq ?_

    refine XK.region ?_
    refine xk_assign rfl (by decide) ?_
    refine XK.nilN ?_
    refine XK.ret ?_
    refine XK.norm ?_
    have hnl : ¬ xs = ys := fun he => hne (by rw [hn, hm, he])
    exact XK.ret1 rfl rfl fun w1 st => ⟨by rw [eqB_f hnl], st.below (by simp)⟩
  ·
    refine XK.skip ?_
    refine XK.norm ?_
    refine XK.seq ?_
    refine XK.seq ?_
    have hnm : n = m := by omega
    have hxy : xs.length = ys.length := by omega

    refine XK.region ?_
    refine xk_move rfl (by decide) ?_
    refine xk_len (el := 71) (by kernel_rfl) rfl (by decide) ?_
    refine xk_move rfl (by decide) ?_
    refine XK.nilN ?_
    refine XK.envS [(13, .int .i64 0), (12, .int .i64 (n : Int)), (4, .bool false), (1, .slice B m d), (0, .slice A n c)] ?_
    refine XK.block ?_
    refine XK.loop (fun ml e R H => ∃ k : Nat, k ≤ n ∧ (∀ i, i < k → xs[i]? = ys[i]?) ∧ ml = n - k ∧ e = [(13, .int .i64 (k : Int)), (12, .int .i64 (n : Int)), (4, .bool false), (1, .slice B m d), (0, .slice A n c)] ∧ R = [all w] ∧ H = []) n ⟨0, by omega, by omega, by omega, rfl, rfl, rfl⟩ fun ml e R H hI => ?_
    obtain ⟨k, hkn, hall, rfl, rfl, rfl, rfl⟩ := hI
    refine XK.seq ?_

    refine XK.region ?_
    refine xk_lss rfl rfl (by decide) ?_
    refine XK.nilN ?_
    refine XK.seq ?_
    refine XK.if_ rfl (fun hlt => ?_) (fun hlt => ?_)
    ·
      refine XK.skip ?_
      refine XK.norm ?_
      refine XK.seq ?_
      refine XK.block ?_
      refine XK.seq ?_
      have hks : k < n := by omega
      obtain ⟨x, hx⟩ : ∃ x, xs[k]? = some x := ⟨_, List.getElem?_eq_getElem (by omega)⟩
      obtain ⟨y, hy⟩ : ∃ y, ys[k]? = some y := ⟨_, List.getElem?_eq_getElem (by omega)⟩
      obtain ⟨b1, o1, r1, rfl, _, rfl, hro1⟩ := hx0.row hx
      obtain ⟨b2, o2, r2, rfl, _, rfl, hro2⟩ := hy0.row hy

      refine XK.region ?_
      refine xk_move rfl (by decide) ?_
      refine xk_assign rfl (by decide) ?_
      refine XK.nilN ?_
      refine XK.seq ?_

      refine XK.draw 8 (by kernel_rfl) (by kernel_rfl) ?_
      refine XA.dA 0 rfl rfl rfl (does_move rfl) ?_
      refine XA.dA 1 rfl rfl rfl (does_move rfl) ?_
      refine XA.dA 2 rfl rfl rfl (does_at (k) (o1 + k * 1) (el := 71) (sz := 1) (by kernel_rfl) (by kernel_rfl) rfl rfl (by omega) (by omega) (by omega)) ?_
      refine XA.dA 3 rfl rfl rfl (does_ldN 1 rfl) ?_
      refine XA.dA 4 rfl rfl rfl (does_move rfl) ?_
      refine XA.dA 5 rfl rfl rfl (does_move rfl) ?_
      refine XA.dA 6 rfl rfl rfl (does_at (k) (o2 + k * 1) (el := 71) (sz := 1) (by kernel_rfl) (by kernel_rfl) rfl rfl (by omega) (by omega) (by omega)) ?_
      refine XA.dA 7 rfl rfl rfl (does_ldN 1 rfl) ?_
      refine XA.next 8 rfl (by kernel_rfl) ?_
      refine xk_neqV (decide (¬ (x = y))) rfl rfl (fun ev w h1 h2 => by
        by_cases g0 : x = y <;> simp [execOp, h1, h2, run_eqGuard_agg (hm := (by kernel_rfl)), run_neq_struct, run_equalIn_agg (ht := (by kernel_rfl)) (hp := (by kernel_rfl)), go_sem, *]) (by decide) ?_
      refine XA.bt ?_
      refine XA.done (by kernel_rfl) ?_
      refine XK.norm ?_
      refine XK.if_ rfl (fun hne => ?_) (fun hne => ?_)
      ·
        refine XK.seq ?_

        refine XK.region ?_
        refine xk_assign rfl (by decide) ?_
        refine XK.nilN ?_
        refine XK.ret ?_
        refine XK.norm ?_
        have hnl : ¬ xs = ys := fun he => hne (Iff.rfl.1 (by rw [he, hy] at hx; cases hx; rfl))
        exact XK.ret1 rfl rfl fun w1 st => ⟨by rw [eqB_f hnl], st.below (by simp)⟩
      ·
        refine XK.skip ?_
        refine XK.norm ?_
        have hxe : x = y := Iff.rfl.2 (Classical.byContradiction hne)

        refine XK.region ?_
        refine xk_add rfl rfl (wrap_in (by omega)) (by decide) ?_
        refine xk_move rfl (by decide) ?_
        refine XK.nilN ?_
        exact XK.envS [(13, .int .i64 ((k + 1 : Nat) : Int)), (12, .int .i64 (n : Int)), (4, .bool false), (1, .slice (some ⟨b2, o2, none⟩) m d), (0, .slice (some ⟨b1, o1, none⟩) n c)] (XK.round _ (by omega) ⟨k + 1, by omega, fun i hi => (by rcases Nat.lt_or_ge i k with h | h; exact hall i h; rw [show i = k by omega, hx, hy, hxe]), rfl, rfl, rfl, rfl⟩)
    ·
      refine XK.exit ?_
      refine XK.norm ?_
      refine XK.seq ?_

      refine XK.region ?_
      refine xk_assign rfl (by decide) ?_
      refine XK.nilN ?_
      refine XK.ret ?_
      refine XK.norm ?_
      have hel : xs = ys := ext_at hxy fun i hi => hall i (by omega)
      exact XK.ret1 rfl rfl fun w1 st => ⟨by rw [eqB_t hel], st.below (by simp)⟩

theorem eqReg_ok (xs ys : List Rg) (A B : Option Addr) (n c m d : Nat) (w : World) (hx0 : SlS (all w) 2 A n (xs.flatMap Rg.cells)) (hy0 : SlS (all w) 2 B m (ys.flatMap Rg.cells)) (hn : n = xs.length) (hm : m = ys.length) (hn63 : n ≤ 100000000) :
    Calls Tryz.prog 97 #[.slice A n c, .slice B m d] w (Rt (.bool (eqB xs ys)) w) := by
  refine XK.enter (vs := [.slice A n c, .slice B m d]) Tryz.func97 rfl Tryz.ntmps97 (by simp) ?_
  refine XK.seq ?_

  refine XK.region ?_
  refine xk_assign rfl (by decide) ?_
  refine XK.nilN ?_
  refine XK.seq ?_
  refine XK.seq ?_

  refine XK.region ?_
  refine xk_move rfl (by decide) ?_
  refine xk_len (el := 57) (by kernel_rfl) rfl (by decide) ?_
  refine xk_move rfl (by decide) ?_
  refine xk_len (el := 57) (by kernel_rfl) rfl (by decide) ?_
  refine xk_neq rfl rfl (by decide) ?_
  refine XK.nilN ?_
  refine XK.if_ rfl (fun hne => ?_) (fun heq => ?_)
  ·
    refine XK.seq ?_

    refine XK.region ?_
    refine xk_assign rfl (by decide) ?_
    refine XK.nilN ?_
    refine XK.ret ?_
    refine XK.norm ?_
    have hnl : ¬ xs = ys := fun he => hne (by rw [hn, hm, he])
    exact XK.ret1 rfl rfl fun w1 st => ⟨by rw [eqB_f hnl], st.below (by simp)⟩
  ·
    refine XK.skip ?_
    refine XK.norm ?_
    refine XK.seq ?_
    refine XK.seq ?_
    have hnm : n = m := by omega
    have hxy : xs.length = ys.length := by omega

    refine XK.region ?_
    refine xk_move rfl (by decide) ?_
    refine xk_len (el := 57) (by kernel_rfl) rfl (by decide) ?_
    refine xk_move rfl (by decide) ?_
    refine XK.nilN ?_
    refine XK.envS [(13, .int .i64 0), (12, .int .i64 (n : Int)), (4, .bool false), (1, .slice B m d), (0, .slice A n c)] ?_
    refine XK.block ?_
    refine XK.loop (fun ml e R H => ∃ k : Nat, k ≤ n ∧ (∀ i, i < k → xs[i]? = ys[i]?) ∧ ml = n - k ∧ e = [(13, .int .i64 (k : Int)), (12, .int .i64 (n : Int)), (4, .bool false), (1, .slice B m d), (0, .slice A n c)] ∧ R = [all w] ∧ H = []) n ⟨0, by omega, by omega, by omega, rfl, rfl, rfl⟩ fun ml e R H hI => ?_
    obtain ⟨k, hkn, hall, rfl, rfl, rfl, rfl⟩ := hI
    refine XK.seq ?_

    refine XK.region ?_
    refine xk_lss rfl rfl (by decide) ?_
    refine XK.nilN ?_
    refine XK.seq ?_
    refine XK.if_ rfl (fun hlt => ?_) (fun hlt => ?_)
    ·
      refine XK.skip ?_
      refine XK.norm ?_
      refine XK.seq ?_
      refine XK.block ?_
      refine XK.seq ?_
      have hks : k < n := by omega
      obtain ⟨x, hx⟩ : ∃ x, xs[k]? = some x := ⟨_, List.getElem?_eq_getElem (by omega)⟩
      obtain ⟨y, hy⟩ : ∃ y, ys[k]? = some y := ⟨_, List.getElem?_eq_getElem (by omega)⟩
      have hx1 : SlS (all w) 2 A n (xs.map Rg.cells).flatten := by rw [← List.flatMap_def]; exact hx0
      have hy1 : SlS (all w) 2 B m (ys.map Rg.cells).flatten := by rw [← List.flatMap_def]; exact hy0
      obtain ⟨b1, o1, rfl, hro1⟩ := SlS.row hx1 (by intro r hr; rw [List.mem_map] at hr; obtain ⟨x, _, rfl⟩ := hr; rfl) (k := k) (r := [.int .u32 x.reset, .bool x.kept]) (by rw [List.getElem?_map, hx]; rfl) (by omega)
      obtain ⟨b2, o2, rfl, hro2⟩ := SlS.row hy1 (by intro r hr; rw [List.mem_map] at hr; obtain ⟨x, _, rfl⟩ := hr; rfl) (k := k) (r := [.int .u32 y.reset, .bool y.kept]) (by rw [List.getElem?_map, hy]; rfl) (by omega)

      refine XK.region ?_
      refine xk_move rfl (by decide) ?_
      refine xk_assign rfl (by decide) ?_
      refine XK.nilN ?_
      refine XK.seq ?_

      refine XK.draw 8 (by kernel_rfl) (by kernel_rfl) ?_
      refine XA.dA 0 rfl rfl rfl (does_move rfl) ?_
      refine XA.dA 1 rfl rfl rfl (does_move rfl) ?_
      refine XA.dA 2 rfl rfl rfl (does_at (k) (o1 + k * 2) (el := 57) (sz := 2) (by kernel_rfl) (by kernel_rfl) rfl rfl (by omega) (by omega) (by omega)) ?_
      refine XA.dA 3 rfl rfl rfl (does_ldN 2 rfl) ?_
      refine XA.dA 4 rfl rfl rfl (does_move rfl) ?_
      refine XA.dA 5 rfl rfl rfl (does_move rfl) ?_
      refine XA.dA 6 rfl rfl rfl (does_at (k) (o2 + k * 2) (el := 57) (sz := 2) (by kernel_rfl) (by kernel_rfl) rfl rfl (by omega) (by omega) (by omega)) ?_
      refine XA.dA 7 rfl rfl rfl (does_ldN 2 rfl) ?_
      refine XA.next 8 rfl (by kernel_rfl) ?_
      refine xk_neqV (decide (¬ (x.reset = y.reset ∧ x.kept = y.kept))) rfl rfl (fun ev w h1 h2 => by
        by_cases g0 : x.reset = y.reset <;> by_cases g1 : x.kept = y.kept <;> simp [execOp, h1, h2, run_eqGuard_agg (hm := (by kernel_rfl)), run_neq_struct, run_equalIn_agg (ht := (by kernel_rfl)) (hp := (by kernel_rfl)), go_sem, *]) (by decide) ?_
      refine XA.bt ?_
      refine XA.done (by kernel_rfl) ?_
      refine XK.norm ?_
      refine XK.if_ rfl (fun hne => ?_) (fun hne => ?_)
      ·
        refine XK.seq ?_

        refine XK.region ?_
        refine xk_assign rfl (by decide) ?_
        refine XK.nilN ?_
        refine XK.ret ?_
        refine XK.norm ?_
        have hnl : ¬ xs = ys := fun he => hne (Rg.eq_iff.1 (by rw [he, hy] at hx; cases hx; rfl))
        exact XK.ret1 rfl rfl fun w1 st => ⟨by rw [eqB_f hnl], st.below (by simp)⟩
      ·
        refine XK.skip ?_
        refine XK.norm ?_
        have hxe : x = y := Rg.eq_iff.2 (Classical.byContradiction hne)

        refine XK.region ?_
        refine xk_add rfl rfl (wrap_in (by omega)) (by decide) ?_
        refine xk_move rfl (by decide) ?_
        refine XK.nilN ?_
        exact XK.envS [(13, .int .i64 ((k + 1 : Nat) : Int)), (12, .int .i64 (n : Int)), (4, .bool false), (1, .slice (some ⟨b2, o2, none⟩) m d), (0, .slice (some ⟨b1, o1, none⟩) n c)] (XK.round _ (by omega) ⟨k + 1, by omega, fun i hi => (by rcases Nat.lt_or_ge i k with h | h; exact hall i h; rw [show i = k by omega, hx, hy, hxe]), rfl, rfl, rfl, rfl⟩)
    ·
      refine XK.exit ?_
      refine XK.norm ?_
      refine XK.seq ?_

      refine XK.region ?_
      refine xk_assign rfl (by decide) ?_
      refine XK.nilN ?_
      refine XK.ret ?_
      refine XK.norm ?_
      have hel : xs = ys := ext_at hxy fun i hi => hall i (by omega)
      exact XK.ret1 rfl rfl fun w1 st => ⟨by rw [eqB_t hel], st.below (by simp)⟩

theorem eqB_iff_f {α : Type} {a b : α} : eqB a b = false ↔ ¬ a = b := by unfold eqB; simp
theorem eqB_dec {α : Type} {a b : α} {p : Prop} [Decidable p] (h : a = b ↔ p) : Ending.returned (.bool (decide p)) = .returned (.bool (eqB a b)) := by
  by_cases hp : p
  · rw [eqB_t (h.2 hp), decide_eq_true hp]
  · rw [eqB_f (fun he => hp (h.1 he)), decide_eq_false hp]
theorem eqB_eqB {α β : Type} {a b : α} {x y : β} (h : a = b ↔ x = y) : Ending.returned (.bool (eqB x y)) = .returned (.bool (eqB a b)) := by
  by_cases hp : x = y
  · rw [eqB_t (h.2 hp), eqB_t hp]
  · rw [eqB_f (fun he => hp (h.1 he)), eqB_f hp]
theorem eqB_no {α : Type} {a b : α} (h : ¬ a = b) : Ending.returned (.bool false) = .returned (.bool (eqB a b)) := by rw [eqB_f h]
theorem sameClock_ok (x y : Clk) (A B : Option Addr) (n c m d : Nat) (w : World) (hx0 : SlS (all w) 1 A n (intCells x.src)) (hy0 : SlS (all w) 1 B m (intCells y.src)) (hn : n = x.src.length) (hm : m = y.src.length) (hn63 : n ≤ 100000000) :
    Calls Tryz.prog 44 #[.agg #[.int .u8 x.kind, .slice A n c, .int .u64 x.rate, .int .i64 x.mul, .int .i64 x.div, .int .i64 x.lock], .agg #[.int .u8 y.kind, .slice B m d, .int .u64 y.rate, .int .i64 y.mul, .int .i64 y.div, .int .i64 y.lock]] w (Rt (.bool (eqB x y)) w) := by
  refine XK.enter (vs := [.agg #[.int .u8 x.kind, .slice A n c, .int .u64 x.rate, .int .i64 x.mul, .int .i64 x.div, .int .i64 x.lock], .agg #[.int .u8 y.kind, .slice B m d, .int .u64 y.rate, .int .i64 y.mul, .int .i64 y.div, .int .i64 y.lock]]) Tryz.func44 rfl Tryz.ntmps44 (by simp) ?_
  refine XK.seq ?_

  refine XK.region ?_
  refine xk_box rfl (by decide) fun g1 => ?_
  refine xk_box rfl (by decide) fun g2 => ?_
  refine xk_assign rfl (by decide) ?_
  refine XK.nilN ?_
  refine XK.seq ?_

  refine XK.region ?_
  refine xk_field (off := 0) (by kernel_rfl) rfl (by decide) ?_
  refine xk_ld rfl ?_
  refine xk_field (off := 0) (by kernel_rfl) rfl (by decide) ?_
  refine xk_ld rfl ?_
  refine xk_eql rfl rfl (by decide) ?_
  refine xk_move rfl (by decide) ?_
  (first | refine xk_split (t := 10) rfl (fun hg => ?_) (fun hg => ?_) | refine xk_splitB (t := 10) rfl (fun hg => ?_) (fun hg => ?_))
  ·
    refine xk_guardT rfl rfl ?_; refine xk_field (off := 1) (by kernel_rfl) rfl (by decide) ?_
    refine xk_guardT rfl rfl ?_; refine xk_ld rfl ?_
    refine xk_guardT rfl rfl ?_; refine xk_field (off := 1) (by kernel_rfl) rfl (by decide) ?_
    refine xk_guardT rfl rfl ?_; refine xk_ld rfl ?_
    refine xk_guardT rfl rfl ?_; refine xk_callR (f := 96) (fi := []) (ca := []) (by kernel_rfl) rfl rfl (by decide) (fun w1 st => eqInt_ok x.src y.src A B n c m d w1 (hx0.le (st.le (by simp))) (hy0.le (st.le (by simp))) hn hm hn63) ?_
    (first | refine xk_pickT rfl rfl (by decide) ?_ | refine xk_pickF rfl rfl (by decide) ?_)
    refine xk_move rfl (by decide) ?_
    (first | refine xk_split (t := 17) rfl (fun hg => ?_) (fun hg => ?_) | refine xk_splitB (t := 17) rfl (fun hg => ?_) (fun hg => ?_))
    ·
      refine xk_guardT rfl rfl ?_; refine xk_field (off := 2) (by kernel_rfl) rfl (by decide) ?_
      refine xk_guardT rfl rfl ?_; refine xk_ld rfl ?_
      refine xk_guardT rfl rfl ?_; refine xk_field (off := 2) (by kernel_rfl) rfl (by decide) ?_
      refine xk_guardT rfl rfl ?_; refine xk_ld rfl ?_
      refine xk_guardT rfl rfl ?_; refine xk_eql rfl rfl (by decide) ?_
      (first | refine xk_pickT rfl rfl (by decide) ?_ | refine xk_pickF rfl rfl (by decide) ?_)
      refine xk_move rfl (by decide) ?_
      (first | refine xk_split (t := 24) rfl (fun hg => ?_) (fun hg => ?_) | refine xk_splitB (t := 24) rfl (fun hg => ?_) (fun hg => ?_))
      ·
        refine xk_guardT rfl rfl ?_; refine xk_field (off := 3) (by kernel_rfl) rfl (by decide) ?_
        refine xk_guardT rfl rfl ?_; refine xk_ld rfl ?_
        refine xk_guardT rfl rfl ?_; refine xk_field (off := 3) (by kernel_rfl) rfl (by decide) ?_
        refine xk_guardT rfl rfl ?_; refine xk_ld rfl ?_
        refine xk_guardT rfl rfl ?_; refine xk_eql rfl rfl (by decide) ?_
        (first | refine xk_pickT rfl rfl (by decide) ?_ | refine xk_pickF rfl rfl (by decide) ?_)
        refine xk_move rfl (by decide) ?_
        (first | refine xk_split (t := 31) rfl (fun hg => ?_) (fun hg => ?_) | refine xk_splitB (t := 31) rfl (fun hg => ?_) (fun hg => ?_))
        ·
          refine xk_guardT rfl rfl ?_; refine xk_field (off := 4) (by kernel_rfl) rfl (by decide) ?_
          refine xk_guardT rfl rfl ?_; refine xk_ld rfl ?_
          refine xk_guardT rfl rfl ?_; refine xk_field (off := 4) (by kernel_rfl) rfl (by decide) ?_
          refine xk_guardT rfl rfl ?_; refine xk_ld rfl ?_
          refine xk_guardT rfl rfl ?_; refine xk_eql rfl rfl (by decide) ?_
          (first | refine xk_pickT rfl rfl (by decide) ?_ | refine xk_pickF rfl rfl (by decide) ?_)
          refine xk_move rfl (by decide) ?_
          (first | refine xk_split (t := 38) rfl (fun hg => ?_) (fun hg => ?_) | refine xk_splitB (t := 38) rfl (fun hg => ?_) (fun hg => ?_))
          ·
            refine xk_guardT rfl rfl ?_; refine xk_field (off := 5) (by kernel_rfl) rfl (by decide) ?_
            refine xk_guardT rfl rfl ?_; refine xk_ld rfl ?_
            refine xk_guardT rfl rfl ?_; refine xk_field (off := 5) (by kernel_rfl) rfl (by decide) ?_
            refine xk_guardT rfl rfl ?_; refine xk_ld rfl ?_
            refine xk_guardT rfl rfl ?_; refine xk_eql rfl rfl (by decide) ?_
            (first | refine xk_pickT rfl rfl (by decide) ?_ | refine xk_pickF rfl rfl (by decide) ?_)
            refine xk_assign rfl (by decide) ?_
            refine XK.nilN ?_
            refine XK.ret ?_
            refine XK.norm ?_
            exact XK.ret1 rfl rfl fun w1 st => ⟨by first | (refine eqB_dec ?_; rw [Clk.eq_iff]; simp_all [eqB_iff, eqB_iff_f]; done) | (refine eqB_eqB ?_; rw [Clk.eq_iff]; simp_all [eqB_iff, eqB_iff_f]; done) | (refine eqB_no ?_; rw [Clk.eq_iff]; simp_all [eqB_iff, eqB_iff_f]; done), st.below (by simp)⟩
          ·
            refine xk_guardF rfl rfl rfl (by decide) ?_
            refine xk_guardF rfl rfl rfl (by decide) ?_
            refine xk_guardF rfl rfl rfl (by decide) ?_
            refine xk_guardF rfl rfl rfl (by decide) ?_
            refine xk_guardF rfl rfl rfl (by decide) ?_
            (first | refine xk_pickT rfl rfl (by decide) ?_ | refine xk_pickF rfl rfl (by decide) ?_)
            refine xk_assign rfl (by decide) ?_
            refine XK.nilN ?_
            refine XK.ret ?_
            refine XK.norm ?_
            exact XK.ret1 rfl rfl fun w1 st => ⟨by first | (refine eqB_dec ?_; rw [Clk.eq_iff]; simp_all [eqB_iff, eqB_iff_f]; done) | (refine eqB_eqB ?_; rw [Clk.eq_iff]; simp_all [eqB_iff, eqB_iff_f]; done) | (refine eqB_no ?_; rw [Clk.eq_iff]; simp_all [eqB_iff, eqB_iff_f]; done), st.below (by simp)⟩
        ·
          refine xk_guardF rfl rfl rfl (by decide) ?_
          refine xk_guardF rfl rfl rfl (by decide) ?_
          refine xk_guardF rfl rfl rfl (by decide) ?_
          refine xk_guardF rfl rfl rfl (by decide) ?_
          refine xk_guardF rfl rfl rfl (by decide) ?_
          (first | refine xk_pickT rfl rfl (by decide) ?_ | refine xk_pickF rfl rfl (by decide) ?_)
          refine xk_move rfl (by decide) ?_
          refine xk_guardF rfl rfl rfl (by decide) ?_
          refine xk_guardF rfl rfl rfl (by decide) ?_
          refine xk_guardF rfl rfl rfl (by decide) ?_
          refine xk_guardF rfl rfl rfl (by decide) ?_
          refine xk_guardF rfl rfl rfl (by decide) ?_
          (first | refine xk_pickT rfl rfl (by decide) ?_ | refine xk_pickF rfl rfl (by decide) ?_)
          refine xk_assign rfl (by decide) ?_
          refine XK.nilN ?_
          refine XK.ret ?_
          refine XK.norm ?_
          exact XK.ret1 rfl rfl fun w1 st => ⟨by first | (refine eqB_dec ?_; rw [Clk.eq_iff]; simp_all [eqB_iff, eqB_iff_f]; done) | (refine eqB_eqB ?_; rw [Clk.eq_iff]; simp_all [eqB_iff, eqB_iff_f]; done) | (refine eqB_no ?_; rw [Clk.eq_iff]; simp_all [eqB_iff, eqB_iff_f]; done), st.below (by simp)⟩
      ·
        refine xk_guardF rfl rfl rfl (by decide) ?_
        refine xk_guardF rfl rfl rfl (by decide) ?_
        refine xk_guardF rfl rfl rfl (by decide) ?_
        refine xk_guardF rfl rfl rfl (by decide) ?_
        refine xk_guardF rfl rfl rfl (by decide) ?_
        (first | refine xk_pickT rfl rfl (by decide) ?_ | refine xk_pickF rfl rfl (by decide) ?_)
        refine xk_move rfl (by decide) ?_
        refine xk_guardF rfl rfl rfl (by decide) ?_
        refine xk_guardF rfl rfl rfl (by decide) ?_
        refine xk_guardF rfl rfl rfl (by decide) ?_
        refine xk_guardF rfl rfl rfl (by decide) ?_
        refine xk_guardF rfl rfl rfl (by decide) ?_
        (first | refine xk_pickT rfl rfl (by decide) ?_ | refine xk_pickF rfl rfl (by decide) ?_)
        refine xk_move rfl (by decide) ?_
        refine xk_guardF rfl rfl rfl (by decide) ?_
        refine xk_guardF rfl rfl rfl (by decide) ?_
        refine xk_guardF rfl rfl rfl (by decide) ?_
        refine xk_guardF rfl rfl rfl (by decide) ?_
        refine xk_guardF rfl rfl rfl (by decide) ?_
        (first | refine xk_pickT rfl rfl (by decide) ?_ | refine xk_pickF rfl rfl (by decide) ?_)
        refine xk_assign rfl (by decide) ?_
        refine XK.nilN ?_
        refine XK.ret ?_
        refine XK.norm ?_
        exact XK.ret1 rfl rfl fun w1 st => ⟨by first | (refine eqB_dec ?_; rw [Clk.eq_iff]; simp_all [eqB_iff, eqB_iff_f]; done) | (refine eqB_eqB ?_; rw [Clk.eq_iff]; simp_all [eqB_iff, eqB_iff_f]; done) | (refine eqB_no ?_; rw [Clk.eq_iff]; simp_all [eqB_iff, eqB_iff_f]; done), st.below (by simp)⟩
    ·
      refine xk_guardF rfl rfl rfl (by decide) ?_
      refine xk_guardF rfl rfl rfl (by decide) ?_
      refine xk_guardF rfl rfl rfl (by decide) ?_
      refine xk_guardF rfl rfl rfl (by decide) ?_
      refine xk_guardF rfl rfl rfl (by decide) ?_
      (first | refine xk_pickT rfl rfl (by decide) ?_ | refine xk_pickF rfl rfl (by decide) ?_)
      refine xk_move rfl (by decide) ?_
      refine xk_guardF rfl rfl rfl (by decide) ?_
      refine xk_guardF rfl rfl rfl (by decide) ?_
      refine xk_guardF rfl rfl rfl (by decide) ?_
      refine xk_guardF rfl rfl rfl (by decide) ?_
      refine xk_guardF rfl rfl rfl (by decide) ?_
      (first | refine xk_pickT rfl rfl (by decide) ?_ | refine xk_pickF rfl rfl (by decide) ?_)
      refine xk_move rfl (by decide) ?_
      refine xk_guardF rfl rfl rfl (by decide) ?_
      refine xk_guardF rfl rfl rfl (by decide) ?_
      refine xk_guardF rfl rfl rfl (by decide) ?_
      refine xk_guardF rfl rfl rfl (by decide) ?_
      refine xk_guardF rfl rfl rfl (by decide) ?_
      (first | refine xk_pickT rfl rfl (by decide) ?_ | refine xk_pickF rfl rfl (by decide) ?_)
      refine xk_move rfl (by decide) ?_
      refine xk_guardF rfl rfl rfl (by decide) ?_
      refine xk_guardF rfl rfl rfl (by decide) ?_
      refine xk_guardF rfl rfl rfl (by decide) ?_
      refine xk_guardF rfl rfl rfl (by decide) ?_
      refine xk_guardF rfl rfl rfl (by decide) ?_
      (first | refine xk_pickT rfl rfl (by decide) ?_ | refine xk_pickF rfl rfl (by decide) ?_)
      refine xk_assign rfl (by decide) ?_
      refine XK.nilN ?_
      refine XK.ret ?_
      refine XK.norm ?_
      exact XK.ret1 rfl rfl fun w1 st => ⟨by first | (refine eqB_dec ?_; rw [Clk.eq_iff]; simp_all [eqB_iff, eqB_iff_f]; done) | (refine eqB_eqB ?_; rw [Clk.eq_iff]; simp_all [eqB_iff, eqB_iff_f]; done) | (refine eqB_no ?_; rw [Clk.eq_iff]; simp_all [eqB_iff, eqB_iff_f]; done), st.below (by simp)⟩
  ·
    refine xk_guardF rfl rfl rfl (by decide) ?_
    refine xk_guardF rfl rfl rfl (by decide) ?_
    refine xk_guardF rfl rfl rfl (by decide) ?_
    refine xk_guardF rfl rfl rfl (by decide) ?_
    refine xk_guardF rfl rfl rfl (by decide) ?_
    (first | refine xk_pickT rfl rfl (by decide) ?_ | refine xk_pickF rfl rfl (by decide) ?_)
    refine xk_move rfl (by decide) ?_
    refine xk_guardF rfl rfl rfl (by decide) ?_
    refine xk_guardF rfl rfl rfl (by decide) ?_
    refine xk_guardF rfl rfl rfl (by decide) ?_
    refine xk_guardF rfl rfl rfl (by decide) ?_
    refine xk_guardF rfl rfl rfl (by decide) ?_
    (first | refine xk_pickT rfl rfl (by decide) ?_ | refine xk_pickF rfl rfl (by decide) ?_)
    refine xk_move rfl (by decide) ?_
    refine xk_guardF rfl rfl rfl (by decide) ?_
    refine xk_guardF rfl rfl rfl (by decide) ?_
    refine xk_guardF rfl rfl rfl (by decide) ?_
    refine xk_guardF rfl rfl rfl (by decide) ?_
    refine xk_guardF rfl rfl rfl (by decide) ?_
    (first | refine xk_pickT rfl rfl (by decide) ?_ | refine xk_pickF rfl rfl (by decide) ?_)
    refine xk_move rfl (by decide) ?_
    refine xk_guardF rfl rfl rfl (by decide) ?_
    refine xk_guardF rfl rfl rfl (by decide) ?_
    refine xk_guardF rfl rfl rfl (by decide) ?_
    refine xk_guardF rfl rfl rfl (by decide) ?_
    refine xk_guardF rfl rfl rfl (by decide) ?_
    (first | refine xk_pickT rfl rfl (by decide) ?_ | refine xk_pickF rfl rfl (by decide) ?_)
    refine xk_move rfl (by decide) ?_
    refine xk_guardF rfl rfl rfl (by decide) ?_
    refine xk_guardF rfl rfl rfl (by decide) ?_
    refine xk_guardF rfl rfl rfl (by decide) ?_
    refine xk_guardF rfl rfl rfl (by decide) ?_
    refine xk_guardF rfl rfl rfl (by decide) ?_
    (first | refine xk_pickT rfl rfl (by decide) ?_ | refine xk_pickF rfl rfl (by decide) ?_)
    refine xk_assign rfl (by decide) ?_
    refine XK.nilN ?_
    refine XK.ret ?_
    refine XK.norm ?_
    exact XK.ret1 rfl rfl fun w1 st => ⟨by first | (refine eqB_dec ?_; rw [Clk.eq_iff]; simp_all [eqB_iff, eqB_iff_f]; done) | (refine eqB_eqB ?_; rw [Clk.eq_iff]; simp_all [eqB_iff, eqB_iff_f]; done) | (refine eqB_no ?_; rw [Clk.eq_iff]; simp_all [eqB_iff, eqB_iff_f]; done), st.below (by simp)⟩

theorem sameDevice_ok (x y : Dev) (A B A2 B2 : Option Addr) (n c m d n2 c2 m2 d2 : Nat) (w : World) (hx0 : SlS (all w) 2 A n (x.regs.flatMap Rg.cells)) (hy0 : SlS (all w) 2 B m (y.regs.flatMap Rg.cells)) (hx2 : SlS (all w) 1 A2 n2 (intCells x.needs)) (hy2 : SlS (all w) 1 B2 m2 (intCells y.needs)) (hn : n = x.regs.length) (hm : m = y.regs.length) (hn2 : n2 = x.needs.length) (hm2 : m2 = y.needs.length) (hn63 : n ≤ 100000000) (hn3 : n2 ≤ 100000000) :
    Calls Tryz.prog 48 #[.agg #[.int .i64 x.clock, .int .i64 x.domain, .int .i64 x.reset, .int .u32 x.clamp, .slice A n c, .slice A2 n2 c2], .agg #[.int .i64 y.clock, .int .i64 y.domain, .int .i64 y.reset, .int .u32 y.clamp, .slice B m d, .slice B2 m2 d2]] w (Rt (.bool (eqB x y)) w) := by
  refine XK.enter (vs := [.agg #[.int .i64 x.clock, .int .i64 x.domain, .int .i64 x.reset, .int .u32 x.clamp, .slice A n c, .slice A2 n2 c2], .agg #[.int .i64 y.clock, .int .i64 y.domain, .int .i64 y.reset, .int .u32 y.clamp, .slice B m d, .slice B2 m2 d2]]) Tryz.func48 rfl Tryz.ntmps48 (by simp) ?_
  refine XK.seq ?_

  refine XK.region ?_
  refine xk_box rfl (by decide) fun g1 => ?_
  refine xk_box rfl (by decide) fun g2 => ?_
  refine xk_assign rfl (by decide) ?_
  refine XK.nilN ?_
  refine XK.seq ?_

  refine XK.region ?_
  refine xk_field (off := 0) (by kernel_rfl) rfl (by decide) ?_
  refine xk_ld rfl ?_
  refine xk_field (off := 0) (by kernel_rfl) rfl (by decide) ?_
  refine xk_ld rfl ?_
  refine xk_eql rfl rfl (by decide) ?_
  refine xk_move rfl (by decide) ?_
  (first | refine xk_split (t := 10) rfl (fun hg => ?_) (fun hg => ?_) | refine xk_splitB (t := 10) rfl (fun hg => ?_) (fun hg => ?_))
  ·
    refine xk_guardT rfl rfl ?_; refine xk_field (off := 1) (by kernel_rfl) rfl (by decide) ?_
    refine xk_guardT rfl rfl ?_; refine xk_ld rfl ?_
    refine xk_guardT rfl rfl ?_; refine xk_field (off := 1) (by kernel_rfl) rfl (by decide) ?_
    refine xk_guardT rfl rfl ?_; refine xk_ld rfl ?_
    refine xk_guardT rfl rfl ?_; refine xk_eql rfl rfl (by decide) ?_
    (first | refine xk_pickT rfl rfl (by decide) ?_ | refine xk_pickF rfl rfl (by decide) ?_)
    refine xk_move rfl (by decide) ?_
    (first | refine xk_split (t := 17) rfl (fun hg => ?_) (fun hg => ?_) | refine xk_splitB (t := 17) rfl (fun hg => ?_) (fun hg => ?_))
    ·
      refine xk_guardT rfl rfl ?_; refine xk_field (off := 2) (by kernel_rfl) rfl (by decide) ?_
      refine xk_guardT rfl rfl ?_; refine xk_ld rfl ?_
      refine xk_guardT rfl rfl ?_; refine xk_field (off := 2) (by kernel_rfl) rfl (by decide) ?_
      refine xk_guardT rfl rfl ?_; refine xk_ld rfl ?_
      refine xk_guardT rfl rfl ?_; refine xk_eql rfl rfl (by decide) ?_
      (first | refine xk_pickT rfl rfl (by decide) ?_ | refine xk_pickF rfl rfl (by decide) ?_)
      refine xk_move rfl (by decide) ?_
      (first | refine xk_split (t := 24) rfl (fun hg => ?_) (fun hg => ?_) | refine xk_splitB (t := 24) rfl (fun hg => ?_) (fun hg => ?_))
      ·
        refine xk_guardT rfl rfl ?_; refine xk_field (off := 3) (by kernel_rfl) rfl (by decide) ?_
        refine xk_guardT rfl rfl ?_; refine xk_ld rfl ?_
        refine xk_guardT rfl rfl ?_; refine xk_field (off := 3) (by kernel_rfl) rfl (by decide) ?_
        refine xk_guardT rfl rfl ?_; refine xk_ld rfl ?_
        refine xk_guardT rfl rfl ?_; refine xk_eql rfl rfl (by decide) ?_
        (first | refine xk_pickT rfl rfl (by decide) ?_ | refine xk_pickF rfl rfl (by decide) ?_)
        refine xk_move rfl (by decide) ?_
        (first | refine xk_split (t := 31) rfl (fun hg => ?_) (fun hg => ?_) | refine xk_splitB (t := 31) rfl (fun hg => ?_) (fun hg => ?_))
        ·
          refine xk_guardT rfl rfl ?_; refine xk_field (off := 4) (by kernel_rfl) rfl (by decide) ?_
          refine xk_guardT rfl rfl ?_; refine xk_ld rfl ?_
          refine xk_guardT rfl rfl ?_; refine xk_field (off := 4) (by kernel_rfl) rfl (by decide) ?_
          refine xk_guardT rfl rfl ?_; refine xk_ld rfl ?_
          refine xk_guardT rfl rfl ?_; refine xk_callR (f := 97) (fi := []) (ca := []) (by kernel_rfl) rfl rfl (by decide) (fun w1 st => eqReg_ok x.regs y.regs A B n c m d w1 (hx0.le (st.le (by simp))) (hy0.le (st.le (by simp))) hn hm hn63) ?_
          (first | refine xk_pickT rfl rfl (by decide) ?_ | refine xk_pickF rfl rfl (by decide) ?_)
          refine xk_move rfl (by decide) ?_
          (first | refine xk_split (t := 38) rfl (fun hg => ?_) (fun hg => ?_) | refine xk_splitB (t := 38) rfl (fun hg => ?_) (fun hg => ?_))
          ·
            refine xk_guardT rfl rfl ?_; refine xk_field (off := 5) (by kernel_rfl) rfl (by decide) ?_
            refine xk_guardT rfl rfl ?_; refine xk_ld rfl ?_
            refine xk_guardT rfl rfl ?_; refine xk_field (off := 5) (by kernel_rfl) rfl (by decide) ?_
            refine xk_guardT rfl rfl ?_; refine xk_ld rfl ?_
            refine xk_guardT rfl rfl ?_; refine xk_callR (f := 96) (fi := []) (ca := []) (by kernel_rfl) rfl rfl (by decide) (fun w1 st => eqInt_ok x.needs y.needs A2 B2 n2 c2 m2 d2 w1 (hx2.le (st.le (by simp))) (hy2.le (st.le (by simp))) hn2 hm2 hn3) ?_
            (first | refine xk_pickT rfl rfl (by decide) ?_ | refine xk_pickF rfl rfl (by decide) ?_)
            refine xk_assign rfl (by decide) ?_
            refine XK.nilN ?_
            refine XK.ret ?_
            refine XK.norm ?_
            exact XK.ret1 rfl rfl fun w1 st => ⟨by first | (refine eqB_dec ?_; rw [Dev.eq_iff]; simp_all [eqB_iff, eqB_iff_f]; done) | (refine eqB_eqB ?_; rw [Dev.eq_iff]; simp_all [eqB_iff, eqB_iff_f]; done) | (refine eqB_no ?_; rw [Dev.eq_iff]; simp_all [eqB_iff, eqB_iff_f]; done), st.below (by simp)⟩
          ·
            refine xk_guardF rfl rfl rfl (by decide) ?_
            refine xk_guardF rfl rfl rfl (by decide) ?_
            refine xk_guardF rfl rfl rfl (by decide) ?_
            refine xk_guardF rfl rfl rfl (by decide) ?_
            refine xk_guardF rfl rfl rfl (by decide) ?_
            (first | refine xk_pickT rfl rfl (by decide) ?_ | refine xk_pickF rfl rfl (by decide) ?_)
            refine xk_assign rfl (by decide) ?_
            refine XK.nilN ?_
            refine XK.ret ?_
            refine XK.norm ?_
            exact XK.ret1 rfl rfl fun w1 st => ⟨by first | (refine eqB_dec ?_; rw [Dev.eq_iff]; simp_all [eqB_iff, eqB_iff_f]; done) | (refine eqB_eqB ?_; rw [Dev.eq_iff]; simp_all [eqB_iff, eqB_iff_f]; done) | (refine eqB_no ?_; rw [Dev.eq_iff]; simp_all [eqB_iff, eqB_iff_f]; done), st.below (by simp)⟩
        ·
          refine xk_guardF rfl rfl rfl (by decide) ?_
          refine xk_guardF rfl rfl rfl (by decide) ?_
          refine xk_guardF rfl rfl rfl (by decide) ?_
          refine xk_guardF rfl rfl rfl (by decide) ?_
          refine xk_guardF rfl rfl rfl (by decide) ?_
          (first | refine xk_pickT rfl rfl (by decide) ?_ | refine xk_pickF rfl rfl (by decide) ?_)
          refine xk_move rfl (by decide) ?_
          refine xk_guardF rfl rfl rfl (by decide) ?_
          refine xk_guardF rfl rfl rfl (by decide) ?_
          refine xk_guardF rfl rfl rfl (by decide) ?_
          refine xk_guardF rfl rfl rfl (by decide) ?_
          refine xk_guardF rfl rfl rfl (by decide) ?_
          (first | refine xk_pickT rfl rfl (by decide) ?_ | refine xk_pickF rfl rfl (by decide) ?_)
          refine xk_assign rfl (by decide) ?_
          refine XK.nilN ?_
          refine XK.ret ?_
          refine XK.norm ?_
          exact XK.ret1 rfl rfl fun w1 st => ⟨by first | (refine eqB_dec ?_; rw [Dev.eq_iff]; simp_all [eqB_iff, eqB_iff_f]; done) | (refine eqB_eqB ?_; rw [Dev.eq_iff]; simp_all [eqB_iff, eqB_iff_f]; done) | (refine eqB_no ?_; rw [Dev.eq_iff]; simp_all [eqB_iff, eqB_iff_f]; done), st.below (by simp)⟩
      ·
        refine xk_guardF rfl rfl rfl (by decide) ?_
        refine xk_guardF rfl rfl rfl (by decide) ?_
        refine xk_guardF rfl rfl rfl (by decide) ?_
        refine xk_guardF rfl rfl rfl (by decide) ?_
        refine xk_guardF rfl rfl rfl (by decide) ?_
        (first | refine xk_pickT rfl rfl (by decide) ?_ | refine xk_pickF rfl rfl (by decide) ?_)
        refine xk_move rfl (by decide) ?_
        refine xk_guardF rfl rfl rfl (by decide) ?_
        refine xk_guardF rfl rfl rfl (by decide) ?_
        refine xk_guardF rfl rfl rfl (by decide) ?_
        refine xk_guardF rfl rfl rfl (by decide) ?_
        refine xk_guardF rfl rfl rfl (by decide) ?_
        (first | refine xk_pickT rfl rfl (by decide) ?_ | refine xk_pickF rfl rfl (by decide) ?_)
        refine xk_move rfl (by decide) ?_
        refine xk_guardF rfl rfl rfl (by decide) ?_
        refine xk_guardF rfl rfl rfl (by decide) ?_
        refine xk_guardF rfl rfl rfl (by decide) ?_
        refine xk_guardF rfl rfl rfl (by decide) ?_
        refine xk_guardF rfl rfl rfl (by decide) ?_
        (first | refine xk_pickT rfl rfl (by decide) ?_ | refine xk_pickF rfl rfl (by decide) ?_)
        refine xk_assign rfl (by decide) ?_
        refine XK.nilN ?_
        refine XK.ret ?_
        refine XK.norm ?_
        exact XK.ret1 rfl rfl fun w1 st => ⟨by first | (refine eqB_dec ?_; rw [Dev.eq_iff]; simp_all [eqB_iff, eqB_iff_f]; done) | (refine eqB_eqB ?_; rw [Dev.eq_iff]; simp_all [eqB_iff, eqB_iff_f]; done) | (refine eqB_no ?_; rw [Dev.eq_iff]; simp_all [eqB_iff, eqB_iff_f]; done), st.below (by simp)⟩
    ·
      refine xk_guardF rfl rfl rfl (by decide) ?_
      refine xk_guardF rfl rfl rfl (by decide) ?_
      refine xk_guardF rfl rfl rfl (by decide) ?_
      refine xk_guardF rfl rfl rfl (by decide) ?_
      refine xk_guardF rfl rfl rfl (by decide) ?_
      (first | refine xk_pickT rfl rfl (by decide) ?_ | refine xk_pickF rfl rfl (by decide) ?_)
      refine xk_move rfl (by decide) ?_
      refine xk_guardF rfl rfl rfl (by decide) ?_
      refine xk_guardF rfl rfl rfl (by decide) ?_
      refine xk_guardF rfl rfl rfl (by decide) ?_
      refine xk_guardF rfl rfl rfl (by decide) ?_
      refine xk_guardF rfl rfl rfl (by decide) ?_
      (first | refine xk_pickT rfl rfl (by decide) ?_ | refine xk_pickF rfl rfl (by decide) ?_)
      refine xk_move rfl (by decide) ?_
      refine xk_guardF rfl rfl rfl (by decide) ?_
      refine xk_guardF rfl rfl rfl (by decide) ?_
      refine xk_guardF rfl rfl rfl (by decide) ?_
      refine xk_guardF rfl rfl rfl (by decide) ?_
      refine xk_guardF rfl rfl rfl (by decide) ?_
      (first | refine xk_pickT rfl rfl (by decide) ?_ | refine xk_pickF rfl rfl (by decide) ?_)
      refine xk_move rfl (by decide) ?_
      refine xk_guardF rfl rfl rfl (by decide) ?_
      refine xk_guardF rfl rfl rfl (by decide) ?_
      refine xk_guardF rfl rfl rfl (by decide) ?_
      refine xk_guardF rfl rfl rfl (by decide) ?_
      refine xk_guardF rfl rfl rfl (by decide) ?_
      (first | refine xk_pickT rfl rfl (by decide) ?_ | refine xk_pickF rfl rfl (by decide) ?_)
      refine xk_assign rfl (by decide) ?_
      refine XK.nilN ?_
      refine XK.ret ?_
      refine XK.norm ?_
      exact XK.ret1 rfl rfl fun w1 st => ⟨by first | (refine eqB_dec ?_; rw [Dev.eq_iff]; simp_all [eqB_iff, eqB_iff_f]; done) | (refine eqB_eqB ?_; rw [Dev.eq_iff]; simp_all [eqB_iff, eqB_iff_f]; done) | (refine eqB_no ?_; rw [Dev.eq_iff]; simp_all [eqB_iff, eqB_iff_f]; done), st.below (by simp)⟩
  ·
    refine xk_guardF rfl rfl rfl (by decide) ?_
    refine xk_guardF rfl rfl rfl (by decide) ?_
    refine xk_guardF rfl rfl rfl (by decide) ?_
    refine xk_guardF rfl rfl rfl (by decide) ?_
    refine xk_guardF rfl rfl rfl (by decide) ?_
    (first | refine xk_pickT rfl rfl (by decide) ?_ | refine xk_pickF rfl rfl (by decide) ?_)
    refine xk_move rfl (by decide) ?_
    refine xk_guardF rfl rfl rfl (by decide) ?_
    refine xk_guardF rfl rfl rfl (by decide) ?_
    refine xk_guardF rfl rfl rfl (by decide) ?_
    refine xk_guardF rfl rfl rfl (by decide) ?_
    refine xk_guardF rfl rfl rfl (by decide) ?_
    (first | refine xk_pickT rfl rfl (by decide) ?_ | refine xk_pickF rfl rfl (by decide) ?_)
    refine xk_move rfl (by decide) ?_
    refine xk_guardF rfl rfl rfl (by decide) ?_
    refine xk_guardF rfl rfl rfl (by decide) ?_
    refine xk_guardF rfl rfl rfl (by decide) ?_
    refine xk_guardF rfl rfl rfl (by decide) ?_
    refine xk_guardF rfl rfl rfl (by decide) ?_
    (first | refine xk_pickT rfl rfl (by decide) ?_ | refine xk_pickF rfl rfl (by decide) ?_)
    refine xk_move rfl (by decide) ?_
    refine xk_guardF rfl rfl rfl (by decide) ?_
    refine xk_guardF rfl rfl rfl (by decide) ?_
    refine xk_guardF rfl rfl rfl (by decide) ?_
    refine xk_guardF rfl rfl rfl (by decide) ?_
    refine xk_guardF rfl rfl rfl (by decide) ?_
    (first | refine xk_pickT rfl rfl (by decide) ?_ | refine xk_pickF rfl rfl (by decide) ?_)
    refine xk_move rfl (by decide) ?_
    refine xk_guardF rfl rfl rfl (by decide) ?_
    refine xk_guardF rfl rfl rfl (by decide) ?_
    refine xk_guardF rfl rfl rfl (by decide) ?_
    refine xk_guardF rfl rfl rfl (by decide) ?_
    refine xk_guardF rfl rfl rfl (by decide) ?_
    (first | refine xk_pickT rfl rfl (by decide) ?_ | refine xk_pickF rfl rfl (by decide) ?_)
    refine xk_assign rfl (by decide) ?_
    refine XK.nilN ?_
    refine XK.ret ?_
    refine XK.norm ?_
    exact XK.ret1 rfl rfl fun w1 st => ⟨by first | (refine eqB_dec ?_; rw [Dev.eq_iff]; simp_all [eqB_iff, eqB_iff_f]; done) | (refine eqB_eqB ?_; rw [Dev.eq_iff]; simp_all [eqB_iff, eqB_iff_f]; done) | (refine eqB_no ?_; rw [Dev.eq_iff]; simp_all [eqB_iff, eqB_iff_f]; done), st.below (by simp)⟩

theorem eqfClk_ok (xs ys : List Clk) (A B : Option Addr) (n c m d : Nat) (w : World) (hx0 : RsR (slq (all w)) (ClkR (slq (all w))) 55 6 A n xs) (hy0 : RsR (slq (all w)) (ClkR (slq (all w))) 55 6 B m ys) (hsm : ∀ x ∈ xs, x.src.length ≤ 100000000) (hn : n = xs.length) (hm : m = ys.length) (hn63 : n ≤ 100000000) :
    Calls Tryz.prog 43 #[.slice A n c, .slice B m d, .func (.func 44) #[] #[]] w (Rt (.bool (eqB xs ys)) w) := by
  refine XK.enter (vs := [.slice A n c, .slice B m d, .func (.func 44) #[] #[]]) Tryz.func43 rfl Tryz.ntmps43 (by simp) ?_
  refine XK.seq ?_

  refine XK.region ?_
  refine xk_assign rfl (by decide) ?_
  refine XK.nilN ?_
  refine XK.seq ?_
  refine XK.seq ?_

  refine XK.region ?_
  refine xk_move rfl (by decide) ?_
  refine xk_len (el := 55) (by kernel_rfl) rfl (by decide) ?_
  refine xk_move rfl (by decide) ?_
  refine xk_len (el := 55) (by kernel_rfl) rfl (by decide) ?_
  refine xk_neq rfl rfl (by decide) ?_
  refine XK.nilN ?_
  refine XK.if_ rfl (fun hne => ?_) (fun heq => ?_)
  ·
    refine XK.seq ?_

    refine XK.region ?_
    refine xk_assign rfl (by decide) ?_
    refine XK.nilN ?_
    refine XK.ret ?_
    refine XK.norm ?_
    have hnl : ¬ xs = ys := fun he => hne (by rw [hn, hm, he])
    exact XK.ret1 rfl rfl fun w1 st => ⟨by rw [eqB_f hnl], st.below (by simp)⟩
  ·
    refine XK.skip ?_
    refine XK.norm ?_
    refine XK.seq ?_
    refine XK.seq ?_
    have hnm : n = m := by omega
    have hxy : xs.length = ys.length := by omega

    refine XK.region ?_
    refine xk_move rfl (by decide) ?_
    refine xk_len (el := 55) (by kernel_rfl) rfl (by decide) ?_
    refine xk_move rfl (by decide) ?_
    refine XK.nilN ?_
    refine XK.envS [(17, .int .i64 0), (16, .int .i64 (n : Int)), (15, .slice A n c), (6, .bool false), (2, .func (.func 44) #[] #[]), (1, .slice B m d), (0, .slice A n c)] ?_
    refine XK.block ?_
    refine XK.loop (fun ml e R H => ∃ k : Nat, k ≤ n ∧ (∀ i, i < k → xs[i]? = ys[i]?) ∧ ml = n - k ∧ e = [(17, .int .i64 (k : Int)), (16, .int .i64 (n : Int)), (15, .slice A n c), (6, .bool false), (2, .func (.func 44) #[] #[]), (1, .slice B m d), (0, .slice A n c)] ∧ R = [all w] ∧ H = []) n ⟨0, by omega, by omega, by omega, rfl, rfl, rfl⟩ fun ml e R H hI => ?_
    obtain ⟨k, hkn, hall, rfl, rfl, rfl, rfl⟩ := hI
    refine XK.seq ?_

    refine XK.region ?_
    refine xk_lss rfl rfl (by decide) ?_
    refine XK.nilN ?_
    refine XK.seq ?_
    refine XK.if_ rfl (fun hlt => ?_) (fun hlt => ?_)
    ·
      refine XK.skip ?_
      refine XK.norm ?_
      refine XK.seq ?_
      refine XK.block ?_
      refine XK.seq ?_
      have hks : k < n := by omega
      obtain ⟨x, hx⟩ : ∃ x, xs[k]? = some x := ⟨_, List.getElem?_eq_getElem (by omega)⟩
      obtain ⟨y, hy⟩ : ∃ y, ys[k]? = some y := ⟨_, List.getElem?_eq_getElem (by omega)⟩
      have hxm := List.mem_of_getElem? hx
      obtain ⟨b1, o1, r1, rfl, _, ⟨As, ns, ks, rfl, hns, hSs⟩, hro1⟩ := hx0.row hx
      obtain ⟨b2, o2, r2, rfl, _, ⟨At, nt, kt, rfl, hnt, hSt⟩, hro2⟩ := hy0.row hy

      refine XK.region ?_
      refine xk_move rfl (by decide) ?_
      refine xk_at (k) (o1 + k * 6) (el := 55) (sz := 6) (by kernel_rfl) (by kernel_rfl) rfl rfl (by omega) (by omega) (by omega) (by decide) ?_
      refine xk_ldN 6 rfl ?_
      refine xk_alloc (cs := [.int .u8 0, .slice none 0 0, .int .u64 0, .int .i64 0, .int .i64 0, .int .i64 0]) (zeroB_of (by kernel_rfl)) (by decide) fun g1 => ?_
      refine xk_assign rfl (by decide) ?_
      (first | (refine xk_storeN 0 rfl rfl rfl (by kernel_rfl) (by simp [Value.cells, Value.oneCell']) (by simp [Value.cells]) ?_) | (refine xk_storeN 1 rfl rfl rfl (by kernel_rfl) (by simp [Value.cells, Value.oneCell']) (by simp [Value.cells]) ?_) | (refine xk_storeN 2 rfl rfl rfl (by kernel_rfl) (by simp [Value.cells, Value.oneCell']) (by simp [Value.cells]) ?_) | (refine xk_storeN 3 rfl rfl rfl (by kernel_rfl) (by simp [Value.cells, Value.oneCell']) (by simp [Value.cells]) ?_) | (refine xk_storeN 4 rfl rfl rfl (by kernel_rfl) (by simp [Value.cells, Value.oneCell']) (by simp [Value.cells]) ?_) | (refine xk_storeN 5 rfl rfl rfl (by kernel_rfl) (by simp [Value.cells, Value.oneCell']) (by simp [Value.cells]) ?_) | (refine xk_storeN 6 rfl rfl rfl (by kernel_rfl) (by simp [Value.cells, Value.oneCell']) (by simp [Value.cells]) ?_) | (refine xk_storeN 7 rfl rfl rfl (by kernel_rfl) (by simp [Value.cells, Value.oneCell']) (by simp [Value.cells]) ?_) | (refine xk_storeN 8 rfl rfl rfl (by kernel_rfl) (by simp [Value.cells, Value.oneCell']) (by simp [Value.cells]) ?_)); simp only [putN, Value.cells, List.set, List.take, List.drop, List.nil_append, List.append_nil, List.length_cons, List.length_nil, List.cons_append, Nat.reduceAdd]
      refine XK.nilN ?_
      refine XK.seq ?_

      refine XK.region ?_
      refine xk_move rfl (by decide) ?_
      refine xk_move rfl (by decide) ?_
      refine xk_at (k) (o2 + k * 6) (el := 55) (sz := 6) (by kernel_rfl) (by kernel_rfl) rfl rfl (by omega) (by omega) (by omega) (by decide) ?_
      refine xk_ldN 6 rfl ?_
      refine xk_alloc (cs := [.int .u8 0, .slice none 0 0, .int .u64 0, .int .i64 0, .int .i64 0, .int .i64 0]) (zeroB_of (by kernel_rfl)) (by decide) fun g2 => ?_
      (first | (refine xk_storeN 0 rfl rfl rfl (by kernel_rfl) (by simp [Value.cells, Value.oneCell']) (by simp [Value.cells]) ?_) | (refine xk_storeN 1 rfl rfl rfl (by kernel_rfl) (by simp [Value.cells, Value.oneCell']) (by simp [Value.cells]) ?_) | (refine xk_storeN 2 rfl rfl rfl (by kernel_rfl) (by simp [Value.cells, Value.oneCell']) (by simp [Value.cells]) ?_) | (refine xk_storeN 3 rfl rfl rfl (by kernel_rfl) (by simp [Value.cells, Value.oneCell']) (by simp [Value.cells]) ?_) | (refine xk_storeN 4 rfl rfl rfl (by kernel_rfl) (by simp [Value.cells, Value.oneCell']) (by simp [Value.cells]) ?_) | (refine xk_storeN 5 rfl rfl rfl (by kernel_rfl) (by simp [Value.cells, Value.oneCell']) (by simp [Value.cells]) ?_) | (refine xk_storeN 6 rfl rfl rfl (by kernel_rfl) (by simp [Value.cells, Value.oneCell']) (by simp [Value.cells]) ?_) | (refine xk_storeN 7 rfl rfl rfl (by kernel_rfl) (by simp [Value.cells, Value.oneCell']) (by simp [Value.cells]) ?_) | (refine xk_storeN 8 rfl rfl rfl (by kernel_rfl) (by simp [Value.cells, Value.oneCell']) (by simp [Value.cells]) ?_)); simp only [putN, Value.cells, List.set, List.take, List.drop, List.nil_append, List.append_nil, List.length_cons, List.length_nil, List.cons_append, Nat.reduceAdd]
      refine XK.nilN ?_
      refine XK.seq ?_

      refine XK.region ?_
      refine xk_move rfl (by decide) ?_
      refine xk_ldN 6 rfl ?_
      refine xk_ldN 6 rfl ?_
      refine xk_callR (f := 44) (fi := []) (ca := []) (by kernel_rfl) rfl rfl (by decide) (fun w1 st => sameClock_ok x y As At ns ks nt kt w1 (SlS.le hSs (st.le (p := all w) (by simp))) (SlS.le hSt (st.le (p := all w) (by simp))) hns hnt (by have := hsm x hxm; omega)) ?_
      (first | refine xk_notD rfl (by decide) ?_ | refine xk_not rfl (by decide) ?_)
      refine XK.nilN ?_
      refine XK.cond rfl (fun hne => ?_) (fun hne => ?_)
      ·
        refine XK.seq ?_

        refine XK.region ?_
        refine xk_assign rfl (by decide) ?_
        refine XK.nilN ?_
        refine XK.ret ?_
        refine XK.norm ?_
        have hxe : ¬ x = y := by simpa [eqB_iff_f] using hne
        have hnl : ¬ xs = ys := fun he => hxe (by rw [he, hy] at hx; cases hx; rfl)
        exact XK.ret1 rfl rfl fun w1 st => ⟨by rw [eqB_f hnl], st.below (by simp)⟩
      ·
        refine XK.skip ?_
        refine XK.norm ?_
        have hxe : x = y := by simpa [eqB_iff] using hne

        refine XK.region ?_
        refine xk_add rfl rfl (wrap_in (by omega)) (by decide) ?_
        refine xk_move rfl (by decide) ?_
        refine XK.nilN ?_
        exact XK.weak [] rfl (by decide) (by simp) (XK.envS [(17, .int .i64 ((k + 1 : Nat) : Int)), (16, .int .i64 (n : Int)), (15, .slice (some ⟨b1, o1, none⟩) n c), (6, .bool false), (2, .func (.func 44) #[] #[]), (1, .slice (some ⟨b2, o2, none⟩) m d), (0, .slice (some ⟨b1, o1, none⟩) n c)] (XK.round _ (by omega) ⟨k + 1, by omega, fun i hi => (by rcases Nat.lt_or_ge i k with h | h; exact hall i h; rw [show i = k by omega, hx, hy, hxe]), rfl, rfl, rfl, rfl⟩))
    ·
      refine XK.exit ?_
      refine XK.norm ?_
      refine XK.seq ?_

      refine XK.region ?_
      refine xk_assign rfl (by decide) ?_
      refine XK.nilN ?_
      refine XK.ret ?_
      refine XK.norm ?_
      have hel : xs = ys := ext_at hxy fun i hi => hall i (by omega)
      exact XK.ret1 rfl rfl fun w1 st => ⟨by rw [eqB_t hel], st.below (by simp)⟩

theorem eqfDev_ok (xs ys : List Dev) (A B : Option Addr) (n c m d : Nat) (w : World) (hx0 : RsR (slq (all w)) (DevR (slq (all w))) 51 6 A n xs) (hy0 : RsR (slq (all w)) (DevR (slq (all w))) 51 6 B m ys) (hsm : ∀ x ∈ xs, x.regs.length ≤ 100000000 ∧ x.needs.length ≤ 100000000) (hn : n = xs.length) (hm : m = ys.length) (hn63 : n ≤ 100000000) :
    Calls Tryz.prog 47 #[.slice A n c, .slice B m d, .func (.func 48) #[] #[]] w (Rt (.bool (eqB xs ys)) w) := by
  refine XK.enter (vs := [.slice A n c, .slice B m d, .func (.func 48) #[] #[]]) Tryz.func47 rfl Tryz.ntmps47 (by simp) ?_
  refine XK.seq ?_

  refine XK.region ?_
  refine xk_assign rfl (by decide) ?_
  refine XK.nilN ?_
  refine XK.seq ?_
  refine XK.seq ?_

  refine XK.region ?_
  refine xk_move rfl (by decide) ?_
  refine xk_len (el := 51) (by kernel_rfl) rfl (by decide) ?_
  refine xk_move rfl (by decide) ?_
  refine xk_len (el := 51) (by kernel_rfl) rfl (by decide) ?_
  refine xk_neq rfl rfl (by decide) ?_
  refine XK.nilN ?_
  refine XK.if_ rfl (fun hne => ?_) (fun heq => ?_)
  ·
    refine XK.seq ?_

    refine XK.region ?_
    refine xk_assign rfl (by decide) ?_
    refine XK.nilN ?_
    refine XK.ret ?_
    refine XK.norm ?_
    have hnl : ¬ xs = ys := fun he => hne (by rw [hn, hm, he])
    exact XK.ret1 rfl rfl fun w1 st => ⟨by rw [eqB_f hnl], st.below (by simp)⟩
  ·
    refine XK.skip ?_
    refine XK.norm ?_
    refine XK.seq ?_
    refine XK.seq ?_
    have hnm : n = m := by omega
    have hxy : xs.length = ys.length := by omega

    refine XK.region ?_
    refine xk_move rfl (by decide) ?_
    refine xk_len (el := 51) (by kernel_rfl) rfl (by decide) ?_
    refine xk_move rfl (by decide) ?_
    refine XK.nilN ?_
    refine XK.envS [(17, .int .i64 0), (16, .int .i64 (n : Int)), (15, .slice A n c), (6, .bool false), (2, .func (.func 48) #[] #[]), (1, .slice B m d), (0, .slice A n c)] ?_
    refine XK.block ?_
    refine XK.loop (fun ml e R H => ∃ k : Nat, k ≤ n ∧ (∀ i, i < k → xs[i]? = ys[i]?) ∧ ml = n - k ∧ e = [(17, .int .i64 (k : Int)), (16, .int .i64 (n : Int)), (15, .slice A n c), (6, .bool false), (2, .func (.func 48) #[] #[]), (1, .slice B m d), (0, .slice A n c)] ∧ R = [all w] ∧ H = []) n ⟨0, by omega, by omega, by omega, rfl, rfl, rfl⟩ fun ml e R H hI => ?_
    obtain ⟨k, hkn, hall, rfl, rfl, rfl, rfl⟩ := hI
    refine XK.seq ?_

    refine XK.region ?_
    refine xk_lss rfl rfl (by decide) ?_
    refine XK.nilN ?_
    refine XK.seq ?_
    refine XK.if_ rfl (fun hlt => ?_) (fun hlt => ?_)
    ·
      refine XK.skip ?_
      refine XK.norm ?_
      refine XK.seq ?_
      refine XK.block ?_
      refine XK.seq ?_
      have hks : k < n := by omega
      obtain ⟨x, hx⟩ : ∃ x, xs[k]? = some x := ⟨_, List.getElem?_eq_getElem (by omega)⟩
      obtain ⟨y, hy⟩ : ∃ y, ys[k]? = some y := ⟨_, List.getElem?_eq_getElem (by omega)⟩
      have hxm := List.mem_of_getElem? hx
      obtain ⟨b1, o1, r1, rfl, _, ⟨A1, n1, k1, A2, n2, k2, rfl, hn1, hn2, hS1, hS2⟩, hro1⟩ := hx0.row hx
      obtain ⟨b2, o2, r2, rfl, _, ⟨B1, m1, j1, B2, m2, j2, rfl, hm1, hm2, hT1, hT2⟩, hro2⟩ := hy0.row hy

      refine XK.region ?_
      refine xk_move rfl (by decide) ?_
      refine xk_at (k) (o1 + k * 6) (el := 51) (sz := 6) (by kernel_rfl) (by kernel_rfl) rfl rfl (by omega) (by omega) (by omega) (by decide) ?_
      refine xk_ldN 6 rfl ?_
      refine xk_alloc (cs := [.int .i64 0, .int .i64 0, .int .i64 0, .int .u32 0, .slice none 0 0, .slice none 0 0]) (zeroB_of (by kernel_rfl)) (by decide) fun g1 => ?_
      refine xk_assign rfl (by decide) ?_
      (first | (refine xk_storeN 0 rfl rfl rfl (by kernel_rfl) (by simp [Value.cells, Value.oneCell']) (by simp [Value.cells]) ?_) | (refine xk_storeN 1 rfl rfl rfl (by kernel_rfl) (by simp [Value.cells, Value.oneCell']) (by simp [Value.cells]) ?_) | (refine xk_storeN 2 rfl rfl rfl (by kernel_rfl) (by simp [Value.cells, Value.oneCell']) (by simp [Value.cells]) ?_) | (refine xk_storeN 3 rfl rfl rfl (by kernel_rfl) (by simp [Value.cells, Value.oneCell']) (by simp [Value.cells]) ?_) | (refine xk_storeN 4 rfl rfl rfl (by kernel_rfl) (by simp [Value.cells, Value.oneCell']) (by simp [Value.cells]) ?_) | (refine xk_storeN 5 rfl rfl rfl (by kernel_rfl) (by simp [Value.cells, Value.oneCell']) (by simp [Value.cells]) ?_) | (refine xk_storeN 6 rfl rfl rfl (by kernel_rfl) (by simp [Value.cells, Value.oneCell']) (by simp [Value.cells]) ?_) | (refine xk_storeN 7 rfl rfl rfl (by kernel_rfl) (by simp [Value.cells, Value.oneCell']) (by simp [Value.cells]) ?_) | (refine xk_storeN 8 rfl rfl rfl (by kernel_rfl) (by simp [Value.cells, Value.oneCell']) (by simp [Value.cells]) ?_)); simp only [putN, Value.cells, List.set, List.take, List.drop, List.nil_append, List.append_nil, List.length_cons, List.length_nil, List.cons_append, Nat.reduceAdd]
      refine XK.nilN ?_
      refine XK.seq ?_

      refine XK.region ?_
      refine xk_move rfl (by decide) ?_
      refine xk_move rfl (by decide) ?_
      refine xk_at (k) (o2 + k * 6) (el := 51) (sz := 6) (by kernel_rfl) (by kernel_rfl) rfl rfl (by omega) (by omega) (by omega) (by decide) ?_
      refine xk_ldN 6 rfl ?_
      refine xk_alloc (cs := [.int .i64 0, .int .i64 0, .int .i64 0, .int .u32 0, .slice none 0 0, .slice none 0 0]) (zeroB_of (by kernel_rfl)) (by decide) fun g2 => ?_
      (first | (refine xk_storeN 0 rfl rfl rfl (by kernel_rfl) (by simp [Value.cells, Value.oneCell']) (by simp [Value.cells]) ?_) | (refine xk_storeN 1 rfl rfl rfl (by kernel_rfl) (by simp [Value.cells, Value.oneCell']) (by simp [Value.cells]) ?_) | (refine xk_storeN 2 rfl rfl rfl (by kernel_rfl) (by simp [Value.cells, Value.oneCell']) (by simp [Value.cells]) ?_) | (refine xk_storeN 3 rfl rfl rfl (by kernel_rfl) (by simp [Value.cells, Value.oneCell']) (by simp [Value.cells]) ?_) | (refine xk_storeN 4 rfl rfl rfl (by kernel_rfl) (by simp [Value.cells, Value.oneCell']) (by simp [Value.cells]) ?_) | (refine xk_storeN 5 rfl rfl rfl (by kernel_rfl) (by simp [Value.cells, Value.oneCell']) (by simp [Value.cells]) ?_) | (refine xk_storeN 6 rfl rfl rfl (by kernel_rfl) (by simp [Value.cells, Value.oneCell']) (by simp [Value.cells]) ?_) | (refine xk_storeN 7 rfl rfl rfl (by kernel_rfl) (by simp [Value.cells, Value.oneCell']) (by simp [Value.cells]) ?_) | (refine xk_storeN 8 rfl rfl rfl (by kernel_rfl) (by simp [Value.cells, Value.oneCell']) (by simp [Value.cells]) ?_)); simp only [putN, Value.cells, List.set, List.take, List.drop, List.nil_append, List.append_nil, List.length_cons, List.length_nil, List.cons_append, Nat.reduceAdd]
      refine XK.nilN ?_
      refine XK.seq ?_

      refine XK.region ?_
      refine xk_move rfl (by decide) ?_
      refine xk_ldN 6 rfl ?_
      refine xk_ldN 6 rfl ?_
      refine xk_callR (f := 48) (fi := []) (ca := []) (by kernel_rfl) rfl rfl (by decide) (fun w1 st => sameDevice_ok x y A1 B1 A2 B2 n1 k1 m1 j1 n2 k2 m2 j2 w1 (SlS.le hS1 (st.le (p := all w) (by simp))) (SlS.le hT1 (st.le (p := all w) (by simp))) (SlS.le hS2 (st.le (p := all w) (by simp))) (SlS.le hT2 (st.le (p := all w) (by simp))) hn1 hm1 hn2 hm2 (by have := (hsm x hxm).1; omega) (by have := (hsm x hxm).2; omega)) ?_
      (first | refine xk_notD rfl (by decide) ?_ | refine xk_not rfl (by decide) ?_)
      refine XK.nilN ?_
      refine XK.cond rfl (fun hne => ?_) (fun hne => ?_)
      ·
        refine XK.seq ?_

        refine XK.region ?_
        refine xk_assign rfl (by decide) ?_
        refine XK.nilN ?_
        refine XK.ret ?_
        refine XK.norm ?_
        have hxe : ¬ x = y := by simpa [eqB_iff_f] using hne
        have hnl : ¬ xs = ys := fun he => hxe (by rw [he, hy] at hx; cases hx; rfl)
        exact XK.ret1 rfl rfl fun w1 st => ⟨by rw [eqB_f hnl], st.below (by simp)⟩
      ·
        refine XK.skip ?_
        refine XK.norm ?_
        have hxe : x = y := by simpa [eqB_iff] using hne

        refine XK.region ?_
        refine xk_add rfl rfl (wrap_in (by omega)) (by decide) ?_
        refine xk_move rfl (by decide) ?_
        refine XK.nilN ?_
        exact XK.weak [] rfl (by decide) (by simp) (XK.envS [(17, .int .i64 ((k + 1 : Nat) : Int)), (16, .int .i64 (n : Int)), (15, .slice (some ⟨b1, o1, none⟩) n c), (6, .bool false), (2, .func (.func 48) #[] #[]), (1, .slice (some ⟨b2, o2, none⟩) m d), (0, .slice (some ⟨b1, o1, none⟩) n c)] (XK.round _ (by omega) ⟨k + 1, by omega, fun i hi => (by rcases Nat.lt_or_ge i k with h | h; exact hall i h; rw [show i = k by omega, hx, hy, hxe]), rfl, rfl, rfl, rfl⟩))
    ·
      refine XK.exit ?_
      refine XK.norm ?_
      refine XK.seq ?_

      refine XK.region ?_
      refine xk_assign rfl (by decide) ?_
      refine XK.nilN ?_
      refine XK.ret ?_
      refine XK.norm ?_
      have hel : xs = ys := ext_at hxy fun i hi => hall i (by omega)
      exact XK.ret1 rfl rfl fun w1 st => ⟨by rw [eqB_t hel], st.below (by simp)⟩

theorem same_ok (x y : Soc) (A1 A2 A3 A4 B1 B2 B3 B4 : Option Addr) (n1 c1 n2 c2 n3 c3 n4 c4 m1 d1 m2 d2 m3 d3 m4 d4 : Nat) (w : World) (hX : SocW w x A1 n1 A2 n2 A3 n3 A4 n4) (hY : SocW w y B1 m1 B2 m2 B3 m3 B4 m4) (hrg : ∀ d ∈ x.devs, d.regs.length ≤ 100000000) :
    Calls Tryz.prog 21 #[.agg #[.slice A1 n1 c1, .slice A2 n2 c2, .slice A3 n3 c3, .slice A4 n4 c4], .agg #[.slice B1 m1 d1, .slice B2 m2 d2, .slice B3 m3 d3, .slice B4 m4 d4]] w (Rt (.bool (eqB x y)) w) := by
  refine XK.enter (vs := [.agg #[.slice A1 n1 c1, .slice A2 n2 c2, .slice A3 n3 c3, .slice A4 n4 c4], .agg #[.slice B1 m1 d1, .slice B2 m2 d2, .slice B3 m3 d3, .slice B4 m4 d4]]) Tryz.func21 rfl Tryz.ntmps21 (by simp) ?_
  refine XK.seq ?_

  refine XK.region ?_
  refine xk_box rfl (by decide) fun g1 => ?_
  refine xk_box rfl (by decide) fun g2 => ?_
  refine xk_assign rfl (by decide) ?_
  refine XK.nilN ?_
  refine XK.seq ?_

  refine XK.region ?_
  refine xk_field (off := 0) (by kernel_rfl) rfl (by decide) ?_
  refine xk_ld rfl ?_
  refine xk_field (off := 0) (by kernel_rfl) rfl (by decide) ?_
  refine xk_ld rfl ?_
  refine xk_callR (f := 43) (fi := []) (ca := []) (by kernel_rfl) rfl rfl (by decide) (fun w1 st => eqfClk_ok x.clocks y.clocks A1 B1 n1 c1 m1 d1 w1 (hX.le (st.started (by simp))).clk (hY.le (st.started (by simp))).clk (fun z hz => by have := hX.small.2.2.2.2.1 z hz; omega) hX.len1 hY.len1 (by have := hX.small.1; have := hX.len1; omega)) ?_
  refine xk_move rfl (by decide) ?_
  (first | refine xk_split (t := 10) rfl (fun hg => ?_) (fun hg => ?_) | refine xk_splitB (t := 10) rfl (fun hg => ?_) (fun hg => ?_))
  ·
    refine xk_guardT rfl rfl ?_; refine xk_field (off := 1) (by kernel_rfl) rfl (by decide) ?_
    refine xk_guardT rfl rfl ?_; refine xk_ld rfl ?_
    refine xk_guardT rfl rfl ?_; refine xk_field (off := 1) (by kernel_rfl) rfl (by decide) ?_
    refine xk_guardT rfl rfl ?_; refine xk_ld rfl ?_
    refine xk_guardT rfl rfl ?_; refine xk_callR (f := 45) (fi := []) (ca := []) (by kernel_rfl) rfl rfl (by decide) (fun w1 st => eqDom_ok x.domains y.domains A2 B2 n2 c2 m2 d2 w1 (hX.le (st.started (by simp))).dom (hY.le (st.started (by simp))).dom hX.len2 hY.len2 (by have := hX.small.2.1; have := hX.len2; omega)) ?_
    (first | refine xk_pickT rfl rfl (by decide) ?_ | refine xk_pickF rfl rfl (by decide) ?_)
    refine xk_move rfl (by decide) ?_
    (first | refine xk_split (t := 17) rfl (fun hg => ?_) (fun hg => ?_) | refine xk_splitB (t := 17) rfl (fun hg => ?_) (fun hg => ?_))
    ·
      refine xk_guardT rfl rfl ?_; refine xk_field (off := 2) (by kernel_rfl) rfl (by decide) ?_
      refine xk_guardT rfl rfl ?_; refine xk_ld rfl ?_
      refine xk_guardT rfl rfl ?_; refine xk_field (off := 2) (by kernel_rfl) rfl (by decide) ?_
      refine xk_guardT rfl rfl ?_; refine xk_ld rfl ?_
      refine xk_guardT rfl rfl ?_; refine xk_callR (f := 46) (fi := []) (ca := []) (by kernel_rfl) rfl rfl (by decide) (fun w1 st => eqRst_ok x.resets y.resets A3 B3 n3 c3 m3 d3 w1 (hX.le (st.started (by simp))).rst (hY.le (st.started (by simp))).rst hX.len3 hY.len3 (by have := hX.small.2.2.1; have := hX.len3; omega)) ?_
      (first | refine xk_pickT rfl rfl (by decide) ?_ | refine xk_pickF rfl rfl (by decide) ?_)
      refine xk_move rfl (by decide) ?_
      (first | refine xk_split (t := 24) rfl (fun hg => ?_) (fun hg => ?_) | refine xk_splitB (t := 24) rfl (fun hg => ?_) (fun hg => ?_))
      ·
        refine xk_guardT rfl rfl ?_; refine xk_field (off := 3) (by kernel_rfl) rfl (by decide) ?_
        refine xk_guardT rfl rfl ?_; refine xk_ld rfl ?_
        refine xk_guardT rfl rfl ?_; refine xk_field (off := 3) (by kernel_rfl) rfl (by decide) ?_
        refine xk_guardT rfl rfl ?_; refine xk_ld rfl ?_
        refine xk_guardT rfl rfl ?_; refine xk_callR (f := 47) (fi := []) (ca := []) (by kernel_rfl) rfl rfl (by decide) (fun w1 st => eqfDev_ok x.devs y.devs A4 B4 n4 c4 m4 d4 w1 (hX.le (st.started (by simp))).dev (hY.le (st.started (by simp))).dev (fun z hz => ⟨hrg z hz, by have := hX.small.2.2.2.2.2 z hz; omega⟩) hX.len4 hY.len4 (by have := hX.small.2.2.2.1; have := hX.len4; omega)) ?_
        (first | refine xk_pickT rfl rfl (by decide) ?_ | refine xk_pickF rfl rfl (by decide) ?_)
        refine xk_assign rfl (by decide) ?_
        refine XK.nilN ?_
        refine XK.ret ?_
        refine XK.norm ?_
        exact XK.ret1 rfl rfl fun w1 st => ⟨by first | (refine eqB_dec ?_; rw [Soc.eq_iff]; simp_all [eqB_iff, eqB_iff_f]; done) | (refine eqB_eqB ?_; rw [Soc.eq_iff]; simp_all [eqB_iff, eqB_iff_f]; done) | (refine eqB_no ?_; rw [Soc.eq_iff]; simp_all [eqB_iff, eqB_iff_f]; done), st.below (by simp)⟩
      ·
        refine xk_guardF rfl rfl rfl (by decide) ?_
        refine xk_guardF rfl rfl rfl (by decide) ?_
        refine xk_guardF rfl rfl rfl (by decide) ?_
        refine xk_guardF rfl rfl rfl (by decide) ?_
        refine xk_guardF rfl rfl rfl (by decide) ?_
        (first | refine xk_pickT rfl rfl (by decide) ?_ | refine xk_pickF rfl rfl (by decide) ?_)
        refine xk_assign rfl (by decide) ?_
        refine XK.nilN ?_
        refine XK.ret ?_
        refine XK.norm ?_
        exact XK.ret1 rfl rfl fun w1 st => ⟨by first | (refine eqB_dec ?_; rw [Soc.eq_iff]; simp_all [eqB_iff, eqB_iff_f]; done) | (refine eqB_eqB ?_; rw [Soc.eq_iff]; simp_all [eqB_iff, eqB_iff_f]; done) | (refine eqB_no ?_; rw [Soc.eq_iff]; simp_all [eqB_iff, eqB_iff_f]; done), st.below (by simp)⟩
    ·
      refine xk_guardF rfl rfl rfl (by decide) ?_
      refine xk_guardF rfl rfl rfl (by decide) ?_
      refine xk_guardF rfl rfl rfl (by decide) ?_
      refine xk_guardF rfl rfl rfl (by decide) ?_
      refine xk_guardF rfl rfl rfl (by decide) ?_
      (first | refine xk_pickT rfl rfl (by decide) ?_ | refine xk_pickF rfl rfl (by decide) ?_)
      refine xk_move rfl (by decide) ?_
      refine xk_guardF rfl rfl rfl (by decide) ?_
      refine xk_guardF rfl rfl rfl (by decide) ?_
      refine xk_guardF rfl rfl rfl (by decide) ?_
      refine xk_guardF rfl rfl rfl (by decide) ?_
      refine xk_guardF rfl rfl rfl (by decide) ?_
      (first | refine xk_pickT rfl rfl (by decide) ?_ | refine xk_pickF rfl rfl (by decide) ?_)
      refine xk_assign rfl (by decide) ?_
      refine XK.nilN ?_
      refine XK.ret ?_
      refine XK.norm ?_
      exact XK.ret1 rfl rfl fun w1 st => ⟨by first | (refine eqB_dec ?_; rw [Soc.eq_iff]; simp_all [eqB_iff, eqB_iff_f]; done) | (refine eqB_eqB ?_; rw [Soc.eq_iff]; simp_all [eqB_iff, eqB_iff_f]; done) | (refine eqB_no ?_; rw [Soc.eq_iff]; simp_all [eqB_iff, eqB_iff_f]; done), st.below (by simp)⟩
  ·
    refine xk_guardF rfl rfl rfl (by decide) ?_
    refine xk_guardF rfl rfl rfl (by decide) ?_
    refine xk_guardF rfl rfl rfl (by decide) ?_
    refine xk_guardF rfl rfl rfl (by decide) ?_
    refine xk_guardF rfl rfl rfl (by decide) ?_
    (first | refine xk_pickT rfl rfl (by decide) ?_ | refine xk_pickF rfl rfl (by decide) ?_)
    refine xk_move rfl (by decide) ?_
    refine xk_guardF rfl rfl rfl (by decide) ?_
    refine xk_guardF rfl rfl rfl (by decide) ?_
    refine xk_guardF rfl rfl rfl (by decide) ?_
    refine xk_guardF rfl rfl rfl (by decide) ?_
    refine xk_guardF rfl rfl rfl (by decide) ?_
    (first | refine xk_pickT rfl rfl (by decide) ?_ | refine xk_pickF rfl rfl (by decide) ?_)
    refine xk_move rfl (by decide) ?_
    refine xk_guardF rfl rfl rfl (by decide) ?_
    refine xk_guardF rfl rfl rfl (by decide) ?_
    refine xk_guardF rfl rfl rfl (by decide) ?_
    refine xk_guardF rfl rfl rfl (by decide) ?_
    refine xk_guardF rfl rfl rfl (by decide) ?_
    (first | refine xk_pickT rfl rfl (by decide) ?_ | refine xk_pickF rfl rfl (by decide) ?_)
    refine xk_assign rfl (by decide) ?_
    refine XK.nilN ?_
    refine XK.ret ?_
    refine XK.norm ?_
    exact XK.ret1 rfl rfl fun w1 st => ⟨by first | (refine eqB_dec ?_; rw [Soc.eq_iff]; simp_all [eqB_iff, eqB_iff_f]; done) | (refine eqB_eqB ?_; rw [Soc.eq_iff]; simp_all [eqB_iff, eqB_iff_f]; done) | (refine eqB_no ?_; rw [Soc.eq_iff]; simp_all [eqB_iff, eqB_iff_f]; done), st.below (by simp)⟩

end Go.Proofs.YtgopaoidgcgalaaGreatDoor
/- lines.Parse's deferred closure. -/
namespace Go.Proofs.YtgopaoidgcgalaaGreatDoor
set_option linter.all false
open Go.RowKit
theorem rec_idle (g1 g2 : Nat) (w : World) :
    CallsD Tryz.prog 23 #[.pointer (some ⟨g1, 0, none⟩), .pointer (some ⟨g2, 0, none⟩)] .returning w fun e u' w' => e = .returned (.tuple #[]) ∧ u' = .returning ∧ w' = w := by
  refine callsD_of_wpS Tryz.func23 rfl fun c₀ cs hu => ?_
  apply wpS_seq
  apply wpS_region
  simp [wpOpsS, go_sem, recoverD, hu, Tryz.ntmps23, Exit.thenS]
  refine wpS_cond (t := false) (by simp [Act.eval, Array.replicate]) ?_
  simp only [Bool.false_eq_true, if_false]
  refine wpS_of_wp (wp_skip ?_)
  cases c₀
  simp_all [bodyPostS, results, Tryz.results23]
theorem rec_catch {w0 : World} {R : List Piece} {g1 g2 : Nat} {T : TypeId} {pv : Value} {w : World} (st : St w0 R [HP.blk g2 29 [.int .i64 0], HP.blk g1 28 [.slice none 0 0, .slice none 0 0, .slice none 0 0, .slice none 0 0]] w) :
    CallsD Tryz.prog 23 #[.pointer (some ⟨g1, 0, none⟩), .pointer (some ⟨g2, 0, none⟩)] (.panicking (pan (.iface T pv))) w fun e u' w' =>
      (∃ v, e = .returned v) ∧ settle u' = .returning ∧ St w0 R [HP.blk g2 29 [.int .i64 2], HP.blk g1 28 [.slice none 0 0, .slice none 0 0, .slice none 0 0, .slice none 0 0]] w' := by
  refine callsD_of_wpS Tryz.func23 rfl fun c₀ cs hu => ?_
  unfold pan at hu
  apply wpS_seq
  apply wpS_region
  simp [wpOpsS, go_sem, recoverD, hu, Tryz.ntmps23, Exit.thenS]
  refine wpS_cond (t := true) (by simp [Act.eval, Array.replicate]) ?_
  simp only [if_true]
  refine wpS_of_wp ?_
  refine (show XK ⟨5, []⟩ w0 _ [(0, .pointer (some ⟨g1, 0, none⟩)), (1, .pointer (some ⟨g2, 0, none⟩))] R [HP.blk g2 29 [.int .i64 0], HP.blk g1 28 [.slice none 0 0, .slice none 0 0, .slice none 0 0, .slice none 0 0]] from ?_) _ _ ⟨by simp, rfl, fun t v hv => ?_⟩ st
  · refine XK.region ?_
    refine xk_buildS (zs := [.slice none 0 0, .slice none 0 0, .slice none 0 0, .slice none 0 0]) (L := [(0, 1), (1, 1), (2, 1), (3, 1)]) (zeroB_of (by kernel_rfl)) (by kernel_rfl) rfl (by simp [fillL, setN, Value.cells]; rfl) (by decide) ?_
    (first | (refine xk_storeN 0 rfl rfl rfl (by kernel_rfl) (by simp [Value.cells, Value.oneCell']) (by simp [Value.cells]) ?_) | (refine xk_storeN 1 rfl rfl rfl (by kernel_rfl) (by simp [Value.cells, Value.oneCell']) (by simp [Value.cells]) ?_) | (refine xk_storeN 2 rfl rfl rfl (by kernel_rfl) (by simp [Value.cells, Value.oneCell']) (by simp [Value.cells]) ?_) | (refine xk_storeN 3 rfl rfl rfl (by kernel_rfl) (by simp [Value.cells, Value.oneCell']) (by simp [Value.cells]) ?_) | (refine xk_storeN 4 rfl rfl rfl (by kernel_rfl) (by simp [Value.cells, Value.oneCell']) (by simp [Value.cells]) ?_) | (refine xk_storeN 5 rfl rfl rfl (by kernel_rfl) (by simp [Value.cells, Value.oneCell']) (by simp [Value.cells]) ?_) | (refine xk_storeN 6 rfl rfl rfl (by kernel_rfl) (by simp [Value.cells, Value.oneCell']) (by simp [Value.cells]) ?_) | (refine xk_storeN 7 rfl rfl rfl (by kernel_rfl) (by simp [Value.cells, Value.oneCell']) (by simp [Value.cells]) ?_) | (refine xk_storeN 8 rfl rfl rfl (by kernel_rfl) (by simp [Value.cells, Value.oneCell']) (by simp [Value.cells]) ?_)); simp only [putN, Value.cells, List.set, List.take, List.drop, List.nil_append, List.append_nil, List.length_cons, List.length_nil, List.cons_append, Nat.reduceAdd]
    refine xk_st rfl rfl ?_; dsimp only [List.set]
    refine XK.nil ?_
    intro a w' hr st'
    exact ⟨hr.defers, _, rfl, .tuple #[], results_none Tryz.results23 _ _ _, ⟨_, rfl⟩, rfl, st'⟩
  · match t, hv with
    | 0, hv => cases hv; rfl
    | 1, hv => cases hv; rfl
    | t + 2, hv => cases hv
end Go.Proofs.YtgopaoidgcgalaaGreatDoor
/- package lines: Parse. -/
namespace Go.Proofs.YtgopaoidgcgalaaGreatDoor
set_option linter.all false
open Go.RowKit
section
variable {P : Program} {N : Frm} {w0 w : World} {K : Act → World → Prop} {e : Env} {R : List Piece} {H H' : List HP}
theorem XK.newChunk {p : HP} (hp : ∀ w, p.sat (fun _ => False) w) (h : XK N w0 K e R (p :: H)) : XK N w0 K e R H := fun a w hr st =>
  h a w hr (st.new (w' := w) (Below.refl _ _) (by
    rw [show (fresh w w).Z = fun _ => False from by funext b; simp only [fresh, eq_iff_iff, iff_false]; omega]
    exact hp w))
theorem res_cells2 {fn : Func} {t1 t2 s1 s2 b1 b2 n : Nat} {vs : List Value} {v2 : Value} (hr : fn.results = #[.cell t1 s1, .cell t2 s2]) (h1 : rowB P s1 n = true) (h2 : oneB P s2 = true) (hn : vs.length = n) (ht1 : e.get t1 = some (.pointer (some ⟨b1, 0, none⟩))) (ht2 : e.get t2 = some (.pointer (some ⟨b2, 0, none⟩)))
    (r1 : RdN w0 R H b1 0 vs) (r2 : Rd w0 R H b2 0 v2) (a : Act) (w : World) (hrp : Rep N e a) (st : St w0 R H w) : (results fn a.tmps).run P w = .ok (.tuple #[.agg vs.toArray, v2]) w := by
  have l1 := run_load_row (P := P) h1 hn (r1 w st)
  have l2 := run_load_one (P := P) h2 (r2 w st)
  have a1 := hrp.get t1 _ ht1
  have a2 := hrp.get t2 _ ht2
  simp only [Instr.loadAt, Instr.sureAddr, Sem.run_bind, Sem.run_pure, Result.andThen_ok] at l1 l2
  simp only [results, hr]
  simp [a1, a2, asAddr, l1, l2]
end
theorem ROc.go {w w' : World} {g o : Nat} {v : Value} (h : ROc w g o v) (hb : Below w.heap.size w w') : w'.cell? ⟨g, o, none⟩ = some v := (hb.cell (p := ⟨g, o, none⟩) h.1).trans h.2
theorem sls_new (w : World) (t : TypeId) (cs : List Value) (sz n : Nat) (hn : cs.length = n * sz) : SlS (fresh w (w.alloc (.cells cs.toArray t))) sz (some ⟨w.heap.size, 0, none⟩) n cs := by
  have hb := Blk.new w t cs.toArray
  exact SlS.of_blk (Y := (fresh w (w.alloc (.cells cs.toArray t))).Z) (w := w.alloc (.cells cs.toArray t)) (c := 0) (F := (fresh w (w.alloc (.cells cs.toArray t))).Z) ⟨⟨Nat.le_refl _, hb.lt⟩, hb⟩ (fun _ h => h) hn
theorem rows_zip {α β : Type} {R : α → List Value → Prop} {sz : Nat} (pr : β → α) (f : β → List Value) : ∀ l : List β, (∀ x ∈ l, (f x).length = sz ∧ R (pr x) (f x)) → Rows R sz (l.map pr) (l.map f)
  | [], _ => trivial
  | x :: l, h => ⟨(h x (by simp)).1, (h x (by simp)).2, rows_zip pr f l (fun y hy => h y (by simp [hy]))⟩
/-- a description that is built, read -/
theorem SocY.read {x : SocY} {s : Soc} (hx : x.of s) {q : Piece} (h : ∃ F, (HP.many [HP.emp, HP.own 55 6 (.slice x.A1 x.n1 x.c1) x.n1 x.L1, HP.own 69 3 (.slice x.A2 x.n2 x.c2) x.n2 x.L2, HP.own 71 1 (.slice x.A3 x.n3 x.c3) x.n3 x.L3, HP.own 51 6 (.slice x.A4 x.n4 x.c4) x.n4 x.L4, HP.many x.rg, HP.pic (picY x.cs x.ds) (picY_mono x.cs x.ds)]).sat F q.w ∧ ∀ b, F b → q.Z b) :
    RsR (slq q) (ClkR (slq q)) 55 6 x.A1 x.n1 s.clocks ∧ RsR (slq q) DomR 69 3 x.A2 x.n2 s.domains ∧ RsR (slq q) RstR 71 1 x.A3 x.n3 s.resets ∧ RsR (slq q) (DevR (slq q)) 51 6 x.A4 x.n4 s.devs := by
  obtain ⟨F, ⟨G, h1, h2, _⟩, hF⟩ := h
  obtain ⟨e1, e2, e3, e4, e5, e6, e7, e8, e9, e10, e11, e12, e13⟩ := hx
  have hq : ∀ i b, G i b → q.Z b := fun i b hb => hF b (h2 i b hb)
  have o1 := SlS.own ⟨G 1, h1 1 _ rfl, hq 1⟩
  have o2 := SlS.own ⟨G 2, h1 2 _ rfl, hq 2⟩
  have o3 := SlS.own ⟨G 3, h1 3 _ rfl, hq 3⟩
  have o4 := SlS.own ⟨G 4, h1 4 _ rfl, hq 4⟩
  have hp : picY x.cs x.ds q := picY_mono x.cs x.ds ⟨q.w, G 6⟩ q (fun b hb => ⟨hq 6 b hb, rfl⟩) (h1 6 _ rfl)
  obtain ⟨G5, g1, g2, _⟩ := h1 5 _ rfl
  refine ⟨⟨x.cs.map clkRow, ?_, ?_, ?_⟩, ⟨x.dm.map domCells, ?_, ?_, ?_⟩, ⟨x.rs.map fun r => [.int .i64 r], ?_, ?_, ?_⟩, ⟨x.ds.map devRow, ?_, ?_, ?_⟩⟩
  · rw [← e1]
    exact rows_zip _ _ _ fun y hy => ⟨rfl, _, _, _, rfl, rfl, hp.1 y hy⟩
  · rw [e5, ← e1]; simp
  · rw [← List.flatMap_def, ← e9]; exact o1
  · rw [← e2]
    conv => arg 3; rw [← List.map_id x.dm]
    exact rows_zip _ _ _ fun y hy => ⟨rfl, rfl⟩
  · rw [e6, e2]
  · rw [← List.flatMap_def, ← e10]; exact o2
  · rw [← e3]
    conv => arg 3; rw [← List.map_id x.rs]
    exact rows_zip _ _ _ fun y hy => ⟨rfl, rfl⟩
  · rw [e7, e3]
  · rw [e11] at o3
    have : (x.rs.map fun r => [Value.int .i64 r]).flatten = intCells x.rs := by
      rw [← List.flatMap_def]; simp [intCells, List.flatMap]
      induction x.rs with
      | nil => rfl
      | cons r l ih => simp [ih]
    rw [this]; exact o3
  · rw [← e4]
    refine rows_zip _ _ _ fun y hy => ⟨rfl, _, _, _, _, _, _, rfl, rfl, rfl, ?_, hp.2 y hy⟩
    obtain ⟨i, hi⟩ := List.getElem?_of_mem hy
    exact SlS.own ⟨G5 i, g1 i (regOwn y) (by rw [e13, List.getElem?_map, hi]; rfl), fun b hb => hq 5 b (g2 i b hb)⟩
  · rw [e8, ← e4]; simp
  · rw [← List.flatMap_def, ← e12]; exact o4
theorem socR_nil (S : SlP) (hS : ∀ t sz, S t sz none 0 []) : SocR S soc0 #[.slice none 0 0, .slice none 0 0, .slice none 0 0, .slice none 0 0] :=
  ⟨_, _, _, _, _, _, _, _, _, _, _, _, rfl, ⟨[], trivial, rfl, hS _ _⟩, ⟨[], trivial, rfl, hS _ _⟩, ⟨[], trivial, rfl, hS _ _⟩, ⟨[], trivial, rfl, hS _ _⟩⟩
/-- what Parse answers -/
def ParseOk (t : ByteArray) (w : World) : Ending → World → Prop := fun x w' => (∃ cs, x = .returned (.tuple #[.agg cs, .int .i64 (parseF t).1]) ∧ SocR (slq (fresh w w')) (parseF t).2 cs) ∧ Below w.heap.size w w'
theorem short0 : soc0.short := ⟨fun c hc => by simp [soc0] at hc, fun d hd => by simp [soc0] at hd⟩
theorem small_of {s : Soc} (h : s.few 8000) (hs : s.short) : s.small :=
  ⟨Nat.le_trans h.clocks (by omega), Nat.le_trans h.domains (by omega), Nat.le_trans h.resets (by omega), Nat.le_trans h.devs (by omega), fun c hc => Nat.le_trans (hs.1 c hc) (by omega), fun d hd => Nat.le_trans (hs.2 d hd) (by omega)⟩

theorem parse_ok (t : ByteArray) (mm : Int) (w : World) (hM : ROc w 0 0 (.int .i64 mm)) :
    Calls Tryz.prog 11 #[.string t] w (ParseOk t w) := by
  refine XK.enterD (vs := [.string t]) Tryz.func11 rfl Tryz.ntmps11 (by simp) ?_
  refine XK.seq ?_

  refine XK.region ?_
  refine xk_alloc (cs := [.slice none 0 0, .slice none 0 0, .slice none 0 0, .slice none 0 0]) (zeroB_of (by kernel_rfl)) (Nat.le_of_ble_eq_true rfl) fun g1 => ?_
  refine xk_alloc (cs := [.int .i64 0]) (zeroB_of (by kernel_rfl)) (Nat.le_of_ble_eq_true rfl) fun g2 => ?_
  refine XK.nilN ?_
  refine XK.seq ?_

  refine XK.region ?_
  refine xk_func (vf := []) (vc := [.pointer (some ⟨g1, 0, none⟩), .pointer (some ⟨g2, 0, none⟩)]) rfl rfl (Nat.le_of_ble_eq_true rfl) ?_
  refine xk_defer (f := 23) (fi := []) (ca := [.pointer (some ⟨g1, 0, none⟩), .pointer (some ⟨g2, 0, none⟩)]) rfl ?_
  refine XK.nilN ?_
  refine XK.seq ?_
  refine XK.seq ?_

  refine XK.region ?_
  refine xk_move rfl (Nat.le_of_ble_eq_true rfl) ?_
  refine xk_lenS (by kernel_rfl) rfl (Nat.le_of_ble_eq_true rfl) ?_
  refine xk_gtr rfl rfl (Nat.le_of_ble_eq_true rfl) ?_
  refine XK.nilN ?_
  refine XK.if_ rfl (fun hbig => ?_) (fun hbig => ?_)
  ·

    refine XK.region ?_
    refine xk_buildS (zs := []) (L := []) (zeroB_of (by kernel_rfl)) (by kernel_rfl) rfl (by simp [fillL, setN, Value.cells]; rfl) (Nat.le_of_ble_eq_true rfl) ?_
    refine xk_iface (T := 59) (by kernel_rfl) rfl (Nat.le_of_ble_eq_true rfl) ?_
    refine xk_panic rfl ?_
    (repeat (first | refine XK.thenP ?_ | refine XK.inP ?_))
    refine XK.leaveP (H' := [HP.blk g2 29 [.int .i64 2], HP.blk g1 28 [.slice none 0 0, .slice none 0 0, .slice none 0 0, .slice none 0 0]]) (by kernel_rfl) (fun w1 st => rec_catch st) fun a w1 hr st => ⟨_, res_cells2 (s1 := 28) (s2 := 29) rfl (by kernel_rfl) (by kernel_rfl) rfl rfl rfl (RdN.whole 1 rfl) (Rd.blk 0 rfl rfl) a w1 hr st, ?_⟩
    have hpf : parseF t = (2, soc0) := by unfold parseF; rw [show readF t = none from if_pos (by omega)]
    exact ⟨⟨_, by rw [hpf], by rw [hpf]; exact socR_nil _ fun _ _ => SlS.nil _ _⟩, st.below (by simp)⟩
  ·
    refine XK.skip ?_
    refine XK.norm ?_
    refine XK.seq ?_

    refine XK.region ?_
    refine xk_alloc (cs := [.slice none 0 0, .slice none 0 0, .slice none 0 0, .slice none 0 0]) (zeroB_of (by kernel_rfl)) (Nat.le_of_ble_eq_true rfl) fun g3 => ?_
    refine XK.nilN ?_
    refine XK.seq ?_
    have hts : t.size ≤ 8000 := by omega
    have hrd : readF t = contF soc0 t.data.toList := if_neg (by omega)
    refine XK.newChunk (p := HP.many []) (fun w => ⟨fun _ _ => False, fun i p h => by simp at h, fun _ _ h => h, fun _ _ _ _ h => h.elim⟩) ?_
    refine XK.weak [1, 0, 2, 3] rfl (by decide) (fun _ h => h) ?_
    refine XK.push ?_
    refine XK.nilrow 55 6 ?_
    refine XK.push ?_
    refine XK.nilrow 69 3 ?_
    refine XK.push ?_
    refine XK.nilrow 71 1 ?_
    refine XK.push ?_
    refine XK.nilrow 51 6 ?_
    refine XK.push ?_
    refine XK.newChunk (p := HP.many []) (fun w => ⟨fun _ _ => False, fun i p h => by simp at h, fun _ _ h => h, fun _ _ _ _ h => h.elim⟩) ?_
    refine XK.push ?_
    refine XK.newChunk (p := HP.pic (picY [] []) (picY_mono [] [])) (fun w => ⟨fun x hx => by simp at hx, fun x hx => by simp at hx⟩) ?_
    refine XK.push ?_
    simp only [List.nil_append, List.cons_append]
    refine XK.toEx 0 (f := fun X0 : {X0 : SocY // X0.of soc0} => X0.1.hp g3) ⟨⟨[], [], [], [], none, 0, 0, none, 0, 0, none, 0, 0, none, 0, 0, [], [], [], [], []⟩, ⟨rfl, rfl, rfl, rfl, rfl, rfl, rfl, rfl, rfl, rfl, rfl, rfl, rfl⟩⟩ rfl ?_
    dsimp only [List.set]
    refine XK.env [(0, .string (strOf t.data.toList)), (2, .pointer (some ⟨g1, 0, none⟩)), (3, .pointer (some ⟨g2, 0, none⟩)), (4, .pointer (some ⟨g3, 0, none⟩))] ⟨by rw [strOf_data]; rfl, rfl, rfl, rfl, trivial⟩ ?_
    refine XK.block ?_
    refine XK.loop (fun m e R H => ∃ (l : List UInt8) (s : Soc), l.length ≤ 8000 ∧ s.few (8000 - l.length) ∧ s.short ∧ readF t = contF s l ∧ m = l.length ∧ e = [(0, .string (strOf l)), (2, .pointer (some ⟨g1, 0, none⟩)), (3, .pointer (some ⟨g2, 0, none⟩)), (4, .pointer (some ⟨g3, 0, none⟩))] ∧ R = [all w] ∧ H = [SocH g3 s, HP.blk g2 29 [.int .i64 0], HP.blk g1 28 [.slice none 0 0, .slice none 0 0, .slice none 0 0, .slice none 0 0]]) t.data.toList.length ⟨t.data.toList, soc0, by simpa using hts, few0.le (Nat.zero_le _), short0, hrd, rfl, rfl, rfl, rfl⟩ fun m e R H hI => ?_
    obtain ⟨l, s, hl, hfew, hsh, hrd, rfl, rfl, rfl, rfl⟩ := hI
    refine XK.seq ?_
    refine XK.seq ?_

    refine XK.region ?_
    refine xk_move rfl (Nat.le_of_ble_eq_true rfl) ?_
    refine xk_neqStr (by kernel_rfl) rfl rfl (Nat.le_of_ble_eq_true rfl) ?_
    refine XK.nilN ?_
    refine XK.if_ rfl (fun hne => ?_) (fun hne => ?_)
    ·
      have hln : l ≠ [] := fun h0 => hne (by subst h0; rfl)
      have hct : Lib.cut (strOf l).data.toList (ByteArray.mk #[10]).data.toList = cutC 10 l := lib_cut 10 l
      refine XK.skip ?_
      refine XK.norm ?_
      refine XK.block ?_
      refine XK.seq ?_

      refine XK.region ?_
      refine xk_move rfl (Nat.le_of_ble_eq_true rfl) ?_
      refine xk_callR (f := 24) (fi := []) (ca := []) (by kernel_rfl) rfl rfl (Nat.le_of_ble_eq_true rfl) (v0 := .tuple #[.string (strOf (cutC 10 l).1), .string (strOf (cutC 10 l).2.1), .bool (cutC 10 l).2.2]) (fun w1 st => (Tryz.strings_Cut (strOf l) ⟨#[10]⟩ mm w1 (by rw [strOf_size]; omega) (hM.go (st.below (by simp)))).mono fun y w' h => ⟨by rw [h.1, hct]; rfl, by obtain ⟨k, rfl⟩ := h.2; exact Below.drewN w1 k⟩) ?_
      refine xk_move rfl (Nat.le_of_ble_eq_true rfl) ?_
      refine xk_extract rfl rfl (Nat.le_of_ble_eq_true rfl) ?_
      refine xk_extract rfl rfl (Nat.le_of_ble_eq_true rfl) ?_
      refine xk_extract rfl rfl (Nat.le_of_ble_eq_true rfl) ?_
      refine xk_assign rfl (Nat.le_of_ble_eq_true rfl) ?_
      refine xk_assign rfl (Nat.le_of_ble_eq_true rfl) ?_
      refine xk_assign rfl (Nat.le_of_ble_eq_true rfl) ?_
      refine XK.nilN ?_
      refine XK.seq ?_
      refine XK.seq ?_

      refine XK.region ?_
      refine xk_move rfl (Nat.le_of_ble_eq_true rfl) ?_
      refine xk_not rfl (Nat.le_of_ble_eq_true rfl) ?_
      refine XK.nilN ?_
      refine XK.cond rfl (fun hend => ?_) (fun hend => ?_)
      ·

        refine XK.region ?_
        refine xk_buildS (zs := []) (L := []) (zeroB_of (by kernel_rfl)) (by kernel_rfl) rfl (by simp [fillL, setN, Value.cells]; rfl) (Nat.le_of_ble_eq_true rfl) ?_
        refine xk_iface (T := 59) (by kernel_rfl) rfl (Nat.le_of_ble_eq_true rfl) ?_
        refine xk_panic rfl ?_
        (repeat (first | refine XK.thenP ?_ | refine XK.inP ?_))
        have hend : (cutC 10 l).2.2 = false := by simpa using hend
        refine XK.weak [1, 2] rfl (by decide) (fun _ h => h) ?_
        refine XK.leaveP (H' := [HP.blk g2 29 [.int .i64 2], HP.blk g1 28 [.slice none 0 0, .slice none 0 0, .slice none 0 0, .slice none 0 0]]) (by kernel_rfl) (fun w1 st => rec_catch st) fun a w1 hr st => ⟨_, res_cells2 (s1 := 28) (s2 := 29) rfl (by kernel_rfl) (by kernel_rfl) rfl rfl rfl (RdN.whole 1 rfl) (Rd.blk 0 rfl rfl) a w1 hr st, ?_⟩
        have hpf : parseF t = (2, soc0) := by unfold parseF; rw [hrd, contF_bad hln hend]
        exact ⟨⟨_, by rw [hpf], by rw [hpf]; exact socR_nil _ fun _ _ => SlS.nil _ _⟩, st.below (by simp)⟩
      ·
        refine XK.skip ?_
        refine XK.norm ?_
        refine XK.seq ?_

        refine XK.region ?_
        refine xk_move rfl (Nat.le_of_ble_eq_true rfl) ?_
        have hend : (cutC 10 l).2.2 = true := by simpa using hend
        rw [contF_line hln hend] at hrd
        have hcl := cutC_len 10 l hend
        have hsl := splitC_len 32 (cutC 10 l).1
        refine xk_call [] (f := 26) (fi := []) (ca := []) (by kernel_rfl) rfl rfl (Nat.le_of_ble_eq_true rfl) (by simp) (fun v w w' => ∃ A, v = .slice A (wordsF (cutC 10 l).1).length (wordsF (cutC 10 l).1).length ∧ SlS (fresh w w') 1 A (wordsF (cutC 10 l).1).length (strCells (wordsF (cutC 10 l).1))) (fun w1 st => (Tryz.strings_Split (strOf (cutC 10 l).1) ⟨#[32]⟩ mm w1 (by rw [strOf_size]; omega) (hM.go (st.below (by simp))) (by decide)).mono fun y w' h => by
          have hw := wordsB (strOf (cutC 10 l).1)
          have hk := Lib.splitB_all ⟨#[32]⟩ (by decide) 0 _ (strOf (cutC 10 l).1) rfl
          rw [hw] at hk
          rw [hw, ← hk] at h
          obtain ⟨rfl, rfl⟩ := h
          exact ⟨⟨_, rfl, _, rfl, sls_new w1 _ (strCells (wordsF (cutC 10 l).1)) 1 _ (by rw [strCells_len]; omega)⟩, ⟨rfl, rfl, rfl, by simp, fun k hk => Below.heap_alloc w1 _ k hk⟩⟩) ?_
        rintro _ w1 q1 ⟨Aw, rfl, hSw⟩ hq1 _ hF1
        have hSw := hSw.le hq1
        have hwl : (wordsF (cutC 10 l).1).length = (splitC 32 (cutC 10 l).1).length := by simp [wordsF]
        have hw1 : 1 ≤ (wordsF (cutC 10 l).1).length := by
          rw [hwl]
          cases hs : splitC 32 (cutC 10 l).1 with
          | nil => exact absurd hs (splitC_ne _ _)
          | cons x xs => simp
        refine xk_callT 0 (SocH g3 ((takeF s (wordsF (cutC 10 l).1)).getD s)) ((takeF s (wordsF (cutC 10 l).1)).isSome = true) (takeF s (wordsF (cutC 10 l).1) = none) (f := 25) (fi := []) (ca := []) (v := .tuple #[]) (by kernel_rfl) rfl rfl rfl (Nat.le_of_ble_eq_true rfl) (fun w1 F st hp hF hle => take_x g3 s (wordsF (cutC 10 l).1) Aw _ _ w1 F hp hF (hfew.le (by omega)) (hSw.le (hle q1 (by simp))) rfl hw1 (Nat.le_refl _) (by omega) (fun x hx => by
          obtain ⟨y, hy, rfl⟩ := List.mem_map.1 hx
          have := hsl.2 y hy
          rw [strOf_size]; omega)) (fun hp T u => by
          (repeat (first | refine XK.thenP ?_ | refine XK.inP ?_))
          dsimp only [List.set]
          refine XK.weak (R' := [all w]) [1, 2] rfl (by decide) (by simp) ?_
          refine XK.leaveP (H' := [HP.blk g2 29 [.int .i64 2], HP.blk g1 28 [.slice none 0 0, .slice none 0 0, .slice none 0 0, .slice none 0 0]]) (by kernel_rfl) (fun w1 st => rec_catch st) fun a w1 hr st => ⟨_, res_cells2 (s1 := 28) (s2 := 29) rfl (by kernel_rfl) (by kernel_rfl) rfl rfl rfl (RdN.whole 1 rfl) (Rd.blk 0 rfl rfl) a w1 hr st, ?_⟩
          have hpf : parseF t = (2, soc0) := by unfold parseF; rw [hrd, hp]; rw [show (none : Option Soc).bind (fun s' => contF s' (cutC 10 l).2.1) = none from rfl]
          exact ⟨⟨_, by rw [hpf], by rw [hpf]; exact socR_nil _ fun _ _ => SlS.nil _ _⟩, st.below (by simp)⟩) ?_
        dsimp only [List.set]
        intro hsome
        obtain ⟨s', hs'⟩ := Option.isSome_iff_exists.1 hsome
        rw [hs', Option.bind_some] at hrd
        rw [hs', Option.getD_some]
        refine XK.nilN ?_

        refine XK.region ?_
        refine xk_move rfl (Nat.le_of_ble_eq_true rfl) ?_
        refine xk_assign rfl (Nat.le_of_ble_eq_true rfl) ?_
        refine XK.nilN ?_
        exact XK.weakR (R' := [all w]) (by simp) (XK.envS [(0, .string (strOf (cutC 10 l).2.1)), (2, .pointer (some ⟨g1, 0, none⟩)), (3, .pointer (some ⟨g2, 0, none⟩)), (4, .pointer (some ⟨g3, 0, none⟩))] (XK.round _ (by omega) ⟨(cutC 10 l).2.1, s', by omega, (takeF_few hs' hfew).le (by omega), takeF_short hs' (by omega) hsh, hrd, rfl, rfl, rfl, rfl⟩))
    ·
      refine XK.exit ?_
      refine XK.norm ?_
      refine XK.seq ?_
      refine XK.seq ?_
      have hl0 : l = [] := by
        have h0 : strOf l = ⟨#[]⟩ := Classical.not_not.1 hne
        have h1 := congrArg (fun b : ByteArray => b.data.toList) h0
        simpa [strOf] using h1
      subst hl0
      rw [contF_nil] at hrd
      have hsm := small_of (hfew.le (by omega)) hsh
      refine XK.openEx 0 rfl ?_
      rintro ⟨⟨cs, dm, rs, ds, A1, n1, c1, A2, n2, c2, A3, n3, c3, A4, n4, c4, L1, L2, L3, L4, rg⟩, hx⟩
      dsimp only [List.set, SocY.hp]
      refine XK.take 0 0 rfl rfl ?_
      dsimp only [List.set]
      refine XK.still [] [1] [0, 2, 3] (by simp) rfl (by decide) (by decide) fun q hq _ hfr => ?_
      have hfr := hfr (by simp) (by simp)
      obtain ⟨r1, r2, r3, r4⟩ := SocY.read hx (hq 1 _ (by simp) rfl)
      dsimp only at r1 r2 r3 r4
      clear hq

      refine XK.region ?_
      refine xk_loadN 4 (by kernel_rfl) rfl (by first | assumption | exact RdN.whole 0 rfl | exact RdN.whole 1 rfl | exact RdN.whole 2 rfl | exact RdN.whole 3 rfl | exact RdN.whole 4 rfl | exact RdN.whole 5 rfl | exact RdN.whole 6 rfl | exact RdN.whole 7 rfl | exact RdN.whole 8 rfl | exact RdN.roc (by simp) (by assumption)) rfl (Nat.le_of_ble_eq_true rfl) ?_
      refine xk_callR (f := 22) (fi := []) (ca := []) (by kernel_rfl) rfl rfl (Nat.le_of_ble_eq_true rfl) (fun w1 st => checkS_any s A1 A2 A3 A4 n1 c1 n2 c2 n3 c3 n4 c4 w1 (by
        have hl := slq_le (st.le (p := q) (by simp))
        exact ⟨r1.mono hl (fun _ _ => ClkR.mono hl), r2.mono hl (fun _ _ h => h), r3.mono hl (fun _ _ h => h), r4.mono hl (fun _ _ => DevR.mono hl), hsm⟩)) ?_
      refine xk_assign rfl (Nat.le_of_ble_eq_true rfl) ?_
      refine XK.nilN ?_
      refine XK.seq ?_

      refine XK.region ?_
      refine xk_move rfl (Nat.le_of_ble_eq_true rfl) ?_
      refine xk_neq rfl rfl (Nat.le_of_ble_eq_true rfl) ?_
      refine XK.nilN ?_
      refine XK.if_ rfl (fun hck => ?_) (fun hck => ?_)
      ·
        refine XK.seq ?_

        refine XK.region ?_
        refine xk_buildS (zs := [.slice none 0 0, .slice none 0 0, .slice none 0 0, .slice none 0 0]) (L := [(0, 1), (1, 1), (2, 1), (3, 1)]) (zeroB_of (by kernel_rfl)) (by kernel_rfl) rfl (by simp [fillL, setN, Value.cells]; rfl) (Nat.le_of_ble_eq_true rfl) ?_
        refine xk_move rfl (Nat.le_of_ble_eq_true rfl) ?_
        (first | (refine xk_storeN 0 rfl rfl rfl (by kernel_rfl) (by simp [Value.cells, Value.oneCell']) (by simp [Value.cells]) ?_) | (refine xk_storeN 1 rfl rfl rfl (by kernel_rfl) (by simp [Value.cells, Value.oneCell']) (by simp [Value.cells]) ?_) | (refine xk_storeN 2 rfl rfl rfl (by kernel_rfl) (by simp [Value.cells, Value.oneCell']) (by simp [Value.cells]) ?_) | (refine xk_storeN 3 rfl rfl rfl (by kernel_rfl) (by simp [Value.cells, Value.oneCell']) (by simp [Value.cells]) ?_) | (refine xk_storeN 4 rfl rfl rfl (by kernel_rfl) (by simp [Value.cells, Value.oneCell']) (by simp [Value.cells]) ?_) | (refine xk_storeN 5 rfl rfl rfl (by kernel_rfl) (by simp [Value.cells, Value.oneCell']) (by simp [Value.cells]) ?_) | (refine xk_storeN 6 rfl rfl rfl (by kernel_rfl) (by simp [Value.cells, Value.oneCell']) (by simp [Value.cells]) ?_) | (refine xk_storeN 7 rfl rfl rfl (by kernel_rfl) (by simp [Value.cells, Value.oneCell']) (by simp [Value.cells]) ?_) | (refine xk_storeN 8 rfl rfl rfl (by kernel_rfl) (by simp [Value.cells, Value.oneCell']) (by simp [Value.cells]) ?_)); simp only [putN, Value.cells, List.set, List.take, List.drop, List.nil_append, List.append_nil, List.length_cons, List.length_nil, List.cons_append, Nat.reduceAdd]
        refine xk_st rfl rfl ?_; dsimp only [List.set]
        refine XK.nilN ?_
        refine XK.ret ?_
        refine XK.norm ?_
        refine XK.leaveR (H' := [HP.blk g3 28 [.slice A1 n1 c1, .slice A2 n2 c2, .slice A3 n3 c3, .slice A4 n4 c4], HP.blk g2 29 [.int .i64 (checkS s)], HP.blk g1 28 [.slice none 0 0, .slice none 0 0, .slice none 0 0, .slice none 0 0]]) (by kernel_rfl) (fun w1 st => (rec_idle g1 g2 w1).mono fun y u' w' h => by obtain ⟨h1, h2, rfl⟩ := h; exact ⟨⟨_, h1⟩, h2, st⟩) fun a w1 hr st => ⟨_, res_cells2 (s1 := 28) (s2 := 29) rfl (by kernel_rfl) (by kernel_rfl) rfl rfl rfl (RdN.whole 2 rfl) (Rd.blk 1 rfl rfl) a w1 hr st, ?_⟩
        have hpf : parseF t = (checkS s, soc0) := by unfold parseF; rw [hrd]; exact if_neg hck
        exact ⟨⟨_, by rw [hpf], by rw [hpf]; exact socR_nil _ fun _ _ => SlS.nil _ _⟩, st.below (by simp)⟩
      ·
        refine XK.skip ?_
        refine XK.norm ?_
        refine XK.seq ?_

        refine XK.region ?_
        refine xk_loadN 4 (by kernel_rfl) rfl (by first | assumption | exact RdN.whole 0 rfl | exact RdN.whole 1 rfl | exact RdN.whole 2 rfl | exact RdN.whole 3 rfl | exact RdN.whole 4 rfl | exact RdN.whole 5 rfl | exact RdN.whole 6 rfl | exact RdN.whole 7 rfl | exact RdN.whole 8 rfl | exact RdN.roc (by simp) (by assumption)) rfl (Nat.le_of_ble_eq_true rfl) ?_
        (first | (refine xk_storeN 0 rfl rfl rfl (by kernel_rfl) (by simp [Value.cells, Value.oneCell']) (by simp [Value.cells]) ?_) | (refine xk_storeN 1 rfl rfl rfl (by kernel_rfl) (by simp [Value.cells, Value.oneCell']) (by simp [Value.cells]) ?_) | (refine xk_storeN 2 rfl rfl rfl (by kernel_rfl) (by simp [Value.cells, Value.oneCell']) (by simp [Value.cells]) ?_) | (refine xk_storeN 3 rfl rfl rfl (by kernel_rfl) (by simp [Value.cells, Value.oneCell']) (by simp [Value.cells]) ?_) | (refine xk_storeN 4 rfl rfl rfl (by kernel_rfl) (by simp [Value.cells, Value.oneCell']) (by simp [Value.cells]) ?_) | (refine xk_storeN 5 rfl rfl rfl (by kernel_rfl) (by simp [Value.cells, Value.oneCell']) (by simp [Value.cells]) ?_) | (refine xk_storeN 6 rfl rfl rfl (by kernel_rfl) (by simp [Value.cells, Value.oneCell']) (by simp [Value.cells]) ?_) | (refine xk_storeN 7 rfl rfl rfl (by kernel_rfl) (by simp [Value.cells, Value.oneCell']) (by simp [Value.cells]) ?_) | (refine xk_storeN 8 rfl rfl rfl (by kernel_rfl) (by simp [Value.cells, Value.oneCell']) (by simp [Value.cells]) ?_)); simp only [putN, Value.cells, List.set, List.take, List.drop, List.nil_append, List.append_nil, List.length_cons, List.length_nil, List.cons_append, Nat.reduceAdd]
        refine xk_st rfl rfl ?_; dsimp only [List.set]
        refine XK.nilN ?_
        refine XK.ret ?_
        refine XK.norm ?_
        refine XK.leaveR (H' := [HP.blk g3 28 [.slice A1 n1 c1, .slice A2 n2 c2, .slice A3 n3 c3, .slice A4 n4 c4], HP.blk g2 29 [.int .i64 0], HP.blk g1 28 [.slice A1 n1 c1, .slice A2 n2 c2, .slice A3 n3 c3, .slice A4 n4 c4]]) (by kernel_rfl) (fun w1 st => (rec_idle g1 g2 w1).mono fun y u' w' h => by obtain ⟨h1, h2, rfl⟩ := h; exact ⟨⟨_, h1⟩, h2, st⟩) fun a w1 hr st => ⟨_, res_cells2 (s1 := 28) (s2 := 29) rfl (by kernel_rfl) (by kernel_rfl) rfl rfl rfl (RdN.whole 2 rfl) (Rd.blk 1 rfl rfl) a w1 hr st, ?_⟩
        have hpf : parseF t = (0, s) := by unfold parseF; rw [hrd]; exact if_pos (Classical.not_not.1 hck)
        exact ⟨⟨_, by rw [hpf], by rw [hpf]; exact (by
          have hl := slq_le (st.fresh_le (p := q) (by simp) hfr)
          exact ⟨_, _, _, _, _, _, _, _, _, _, _, _, rfl, r1.mono hl (fun _ _ => ClkR.mono hl), r2.mono hl (fun _ _ h => h), r3.mono hl (fun _ _ h => h), r4.mono hl (fun _ _ => DevR.mono hl)⟩)⟩, st.below (by simp)⟩

end Go.Proofs.YtgopaoidgcgalaaGreatDoor
/- Chips and their texts: what the laws of chapter 5 need, in plain words. -/
namespace Go.Proofs.YtgopaoidgcgalaaGreatDoor
set_option linter.all false
open Go.RowKit
theorem firstE_zero {es : List Int} (h : firstE es = 0) : ∀ e ∈ es, e = 0 := by
  intro e he
  refine Classical.byContradiction fun hne => ?_
  unfold firstE at h
  cases hf : es.find? (fun e => decide (e ≠ 0)) with
  | none =>
    have := List.find?_eq_none.1 hf e he
    simp [hne] at this
  | some x =>
    have h1 := List.find?_some hf
    rw [hf] at h
    simp at h h1
    exact h1 h
theorem whenE_zero {b : Bool} {e : Int} (he : e ≠ 0) (h : whenE b e = 0) : b = false := by
  unfold whenE at h
  cases b
  · rfl
  · exact absurd h he
/-- what conf.Check has looked at -/
structure Soc.okB (s : Soc) : Prop where
  nc : s.clocks.length ≤ 12
  nd : s.domains.length ≤ 6
  nr : s.resets.length ≤ 6
  nv : s.devs.length ≤ 6
  src : ∀ c ∈ s.clocks, c.src.length ≤ 4
  devs : ∀ d ∈ s.devs, d.regs.length ≤ 8 ∧ d.needs.length ≤ 6
theorem full_zero {s : Soc} (h : fullE s = 0) : s.clocks.length ≤ 12 ∧ s.domains.length ≤ 6 ∧ s.resets.length ≤ 6 ∧ s.devs.length ≤ 6 ∧ ∀ d ∈ s.devs, d.regs.length ≤ 8 ∧ d.needs.length ≤ 6 := by
  unfold fullE at h
  split at h
  · cases h
  · rename_i hn
    refine ⟨by omega, by omega, by omega, by omega, fun d hd => ?_⟩
    have h1 := firstE_zero h (manyE d) (List.mem_map.2 ⟨d, hd, rfl⟩)
    have h2 := whenE_zero (by decide) h1
    rw [Bool.or_eq_false_iff] at h2
    have h3 := of_decide_eq_false h2.1
    have h4 := of_decide_eq_false h2.2
    omega
theorem check_ok {s : Soc} (h : checkS s = 0) : s.okB := by
  have hz := firstE_zero h
  obtain ⟨h1, h2, h3, h4, h5⟩ := full_zero (hz (fullE s) (by simp [checkL]))
  refine ⟨h1, h2, h3, h4, fun c hc => ?_, h5⟩
  have hc1 := firstE_zero (hz (firstE (s.clocks.map (clockE s.clocks.length))) (by simp [checkL])) _ (List.mem_map.2 ⟨c, hc, rfl⟩)
  have hc2 := whenE_zero (by decide) (firstE_zero hc1 (whenE (!shapeB c.kind c.src.length) 1) (by simp))
  unfold shapeB at hc2
  simp only [Bool.not_eq_false'] at hc2
  split at hc2
  · have := of_decide_eq_true hc2; omega
  · split at hc2
    · have := of_decide_eq_true hc2; omega
    · split at hc2
      · unfold withinB at hc2
        rw [Bool.and_eq_true] at hc2
        have := of_decide_eq_true hc2.2
        omega
      · cases hc2
/-! ### chips that texts can say -/
theorem num_i64 {n : Int} (h : isNum n) : isI64 n := ⟨by have := h.1; omega, by have := h.2; omega⟩
theorem clockN_zero {k : Nat} {l : List Int} {c : Clk} (h : clockN k (some l) = some c) : (∀ x ∈ c.src, x ∈ l) ∧ (c.rate = 0 ∨ c.rate ∈ l) ∧ (c.mul = 0 ∨ c.mul ∈ l) ∧ (c.div = 0 ∨ c.div ∈ l) ∧ (c.lock = 0 ∨ c.lock ∈ l) := by
  unfold clockN at h
  dsimp only at h
  repeat' (split at h)
  all_goals first | (cases h; done) | (cases h; simp; done) | (cases h; subst_vars; simp)
theorem isNum0 : isNum 0 := ⟨by omega, by omega⟩
theorem can_nums {c : Clk} (h : c.can) : (∀ x ∈ c.src, isNum x) ∧ isNum c.rate ∧ isNum c.mul ∧ isNum c.div ∧ isNum c.lock := by
  obtain ⟨_, h2, _, _, h5⟩ := h
  obtain ⟨g1, g2, g3, g4, g5⟩ := clockN_zero h5
  have key : ∀ x : Int, (x = 0 ∨ x ∈ c.nums) → isNum x := fun x hx => by
    rcases hx with rfl | hx
    · exact isNum0
    · exact h2 x hx
  exact ⟨fun x hx => h2 x (g1 x hx), key _ g2, key _ g3, key _ g4, key _ g5⟩
theorem can_in64 {s : Soc} (h : s.can) : s.in64 := by
  refine ⟨fun c hc => ?_, fun d hd => ?_, fun r hr => num_i64 (h.resets r hr), fun d hd => ?_⟩
  · have hcan := h.clocks c hc
    obtain ⟨g1, g2, g3, g4, g5⟩ := can_nums hcan
    exact ⟨fun x hx => num_i64 (g1 x hx), ⟨hcan.2.2.1, hcan.2.2.2.1⟩, ⟨g2.1, by have := g2.2; omega⟩, num_i64 g3, num_i64 g4, num_i64 g5⟩
  · obtain ⟨h1, h2⟩ := h.domains d hd
    refine ⟨?_, num_i64 h2⟩
    rcases h1 with h1 | h1
    · rw [h1]; exact ⟨by omega, by omega⟩
    · exact num_i64 h1
  · obtain ⟨⟨h1, h2, h3, h4, h5, h6⟩, h7⟩ := h.devs d hd
    exact ⟨num_i64 h1, num_i64 h2, num_i64 h3, ⟨h4, h5⟩, fun x hx => num_i64 (h6 x hx), fun r hr => h7 r hr⟩
section
variable {s : Soc} (h : s.made)
include h
theorem made_can : s.can := by
  refine ⟨fun c hc => ?_, fun d hd => ?_, fun r hr => ?_, fun d hd => ?_⟩
  · obtain ⟨k, hk⟩ := List.getElem?_of_mem hc
    have hkl := (List.getElem?_eq_some_iff.1 hk).1
    have hnc := h.nc.2
    obtain ⟨h1, h2⟩ := h.clocks k c hk
    have hs : ∀ f ∈ c.src, isNum f := fun f hf => ⟨(h1 f hf).1, by have := (h1 f hf).2; omega⟩
    obtain ⟨kd, src, rt, ml, dv, lk⟩ := c
    dsimp only at h2 hs
    rcases h2 with ⟨rfl, rfl, g1, g2, rfl, rfl, rfl⟩ | ⟨rfl, g0, rfl, g1, g2, g3, g4, g5, g6⟩ | ⟨rfl, g0, rfl, rfl, g1, g2, rfl⟩ | ⟨rfl, g0, rfl, rfl, rfl, rfl⟩ | ⟨rfl, g0, rfl, rfl, rfl, rfl⟩
    · exact ⟨by simp [Clk.nums], by simp [Clk.nums]; exact ⟨by omega, by omega⟩, by dsimp only; omega, by dsimp only; omega, rfl⟩
    · obtain ⟨a, rfl⟩ := len1 g0
      refine ⟨by simp [Clk.nums], fun n hn => ?_, by dsimp only; omega, by dsimp only; omega, rfl⟩
      simp [Clk.nums] at hn
      rcases hn with rfl | rfl | rfl | rfl
      · exact hs _ (by simp)
      · exact ⟨by omega, by omega⟩
      · exact ⟨by omega, by omega⟩
      · exact ⟨by omega, by omega⟩
    · obtain ⟨a, rfl⟩ := len1 g0
      refine ⟨by simp [Clk.nums], fun n hn => ?_, by dsimp only; omega, by dsimp only; omega, rfl⟩
      simp [Clk.nums] at hn
      rcases hn with rfl | rfl
      · exact hs _ (by simp)
      · exact ⟨by omega, by omega⟩
    · obtain ⟨a, rfl⟩ := len1 g0
      refine ⟨by simp [Clk.nums], fun n hn => ?_, by dsimp only; omega, by dsimp only; omega, rfl⟩
      simp [Clk.nums] at hn
      rw [hn]; exact hs _ (by simp)
    · obtain ⟨a, b, rfl⟩ := len2 g0
      refine ⟨by simp [Clk.nums], fun n hn => ?_, by dsimp only; omega, by dsimp only; omega, rfl⟩
      simp [Clk.nums] at hn
      rcases hn with rfl | rfl <;> exact hs _ (by simp)
  · obtain ⟨k, hk⟩ := List.getElem?_of_mem hd
    have hkl := (List.getElem?_eq_some_iff.1 hk).1
    have := h.nd.2
    obtain ⟨h1, h2, h3⟩ := h.domains k d hk
    refine ⟨?_, by omega, by omega⟩
    rcases h1 with h1 | h1
    · exact .inl h1
    · exact .inr ⟨h1.1, by have := h1.2; omega⟩
  · have := h.resets r hr
    exact ⟨by omega, by omega⟩
  · obtain ⟨k, hk⟩ := List.getElem?_of_mem hd
    have hkl := (List.getElem?_eq_some_iff.1 hk).1
    have n1 := h.nc
    have n2 := h.nd
    have n3 := h.nr
    have n4 := h.nv
    obtain ⟨g1, g2, g3, g4, g5, g6, g7, g8, g9, g10, g11, g12⟩ := h.devs k d hk
    refine ⟨⟨⟨g1, by omega⟩, ⟨g3, by omega⟩, ⟨g5, by omega⟩, g7, by omega, fun x hx => ⟨(g12 x hx).1, by have := (g12 x hx).2; omega⟩⟩, fun r hr => ⟨(g10 r hr).1, by have := (g10 r hr).2; omega⟩⟩
theorem made_regs : ∀ d ∈ s.devs, d.regs.length ≤ 4 := fun d hd => by
  obtain ⟨k, hk⟩ := List.getElem?_of_mem hd
  exact (h.devs k d hk).2.2.2.2.2.2.2.2.1
end
/-! ### how long they are -/
theorem dd_len64 {n : Nat} (h : n < 18446744073709551616) : (Lib.decDigits n).length ≤ 20 := dd_len 19 n (by omega)
theorem numW_len {n : Int} (h1 : -9223372036854775808 ≤ n) (h2 : n < 18446744073709551616) : (numW n).length ≤ 20 := by
  unfold numW Lib.itoa
  split
  · have := dd_len 18 n.natAbs (by omega)
    simp; omega
  · exact dd_len64 (by omega)
theorem joinW_app : ∀ (ws : List (List UInt8)) (b : Nat), (∀ w ∈ ws, w.length ≤ b) → (joinW ws).length ≤ ws.length * (b + 1)
  | [], _, _ => Nat.zero_le _
  | [w], b, h => by have := h w (by simp); simp [joinW]; omega
  | w :: x :: ws, b, h => by
    have h1 := h w (by simp)
    have h2 := joinW_app (x :: ws) b (fun y hy => h y (by simp [hy]))
    simp only [joinW, List.length_append, List.length_cons] at h2 ⊢
    rw [Nat.succ_mul] 
    omega
theorem keptW_len (b : Bool) : (keptW b).length = 4 := by cases b <;> rfl
theorem item_len {i : Item} {n : Nat} (hn : i.words.length ≤ n) (hw : ∀ w ∈ i.words, w.length ≤ 20) : itemL i ≤ 21 * n + 1 := by
  have := joinW_app i.words 20 hw
  unfold itemL Item.line
  have h2 : i.words.length * 21 ≤ n * 21 := Nat.mul_le_mul_right 21 hn
  omega
theorem i64_w {n : Int} (h : isI64 n) : (numW n).length ≤ 20 := numW_len h.1 (by have := h.2; omega)
theorem items_le {α : Type} (f : α → Item) (b : Nat) : ∀ l : List α, (∀ x ∈ l, itemL (f x) ≤ b) → itemsL (l.map f) ≤ l.length * b
  | [], _ => Nat.zero_le _
  | x :: l, h => by
    have h1 := h x (by simp)
    have h2 := items_le f b l (fun y hy => h y (by simp [hy]))
    rw [List.map_cons, itemsL_cons, List.length_cons, Nat.succ_mul]
    omega
theorem devs_le (b : Nat) : ∀ l : List Dev, (∀ d ∈ l, itemsL d.items ≤ b) → devsL l ≤ l.length * b
  | [], _ => Nat.zero_le _
  | d :: l, h => by
    have h1 := h d (by simp)
    have h2 := devs_le b l (fun y hy => h y (by simp [hy]))
    rw [show d :: l = [d] ++ l from rfl, devsL_app, List.length_append, List.length_singleton, Nat.add_mul, Nat.one_mul]
    have : devsL [d] = itemsL d.items := by simp [devsL]
    omega
theorem mul_mono {a b c : Nat} (h : a ≤ b) : a * c ≤ b * c := Nat.mul_le_mul_right c h
theorem print_len {s : Soc} (h : s.okB) (h64 : s.in64) : (printF s).length ≤ 6700 := by
  rw [printF, itemsT_len, show itemsL s.items = socL s from rfl, socL_eq]
  have hc : itemsL (s.clocks.map .clk) ≤ 12 * 190 := by
    refine Nat.le_trans (items_le _ 190 _ fun c hc => ?_) (mul_mono h.nc)
    obtain ⟨h1, h2, h3, h4, h5, h6⟩ := h64.clocks c hc
    have hl := (clkW_len c).2
    have hs := h.src c hc
    refine Nat.le_trans (item_len (n := 9) (by show (clkW c).length ≤ 9; omega) fun w hw => ?_) (by omega)
    simp only [Item.words, clkW, List.mem_cons, List.mem_map] at hw
    rcases hw with rfl | rfl | ⟨x, hx, rfl⟩
    · decide
    · simp
    · unfold Clk.nums at hx
      rcases List.mem_append.1 hx with hx | hx
      · exact i64_w (h1 x hx)
      · split at hx
        · simp at hx; subst hx; exact numW_len (by omega) h3.2
        · split at hx
          · simp at hx
            rcases hx with rfl | rfl | rfl
            · exact i64_w h4
            · exact i64_w h5
            · exact i64_w h6
          · split at hx
            · simp at hx; subst hx; exact i64_w h5
            · cases hx
  have hd : itemsL (s.domains.map .dom) ≤ 6 * 85 := by
    refine Nat.le_trans (items_le _ 85 _ fun c hc => ?_) (mul_mono h.nd)
    obtain ⟨h1, h2⟩ := h64.domains c hc
    refine Nat.le_trans (item_len (n := 4) (by simp [Item.words, domW]) fun w hw => ?_) (by omega)
    simp only [Item.words, domW, List.mem_cons, List.not_mem_nil, or_false] at hw
    rcases hw with rfl | rfl | rfl | rfl
    · decide
    · unfold aboveW; split
      · simp
      · exact i64_w h1
    · exact i64_w h2
    · rw [keptW_len]; omega
  have hr : itemsL (s.resets.map .res) ≤ 6 * 43 := by
    refine Nat.le_trans (items_le _ 43 _ fun c hc => ?_) (mul_mono h.nr)
    have h1 := h64.resets c hc
    refine Nat.le_trans (item_len (n := 2) (by simp [Item.words, resW]) fun w hw => ?_) (by omega)
    simp only [Item.words, resW, List.mem_cons, List.not_mem_nil, or_false] at hw
    rcases hw with rfl | rfl
    · decide
    · exact i64_w h1
  have hv : devsL s.devs ≤ 6 * 600 := by
    refine Nat.le_trans (devs_le 600 _ fun d hd => ?_) (mul_mono h.nv)
    obtain ⟨h1, h2, h3, h4, h5, h6⟩ := h64.devs d hd
    obtain ⟨g1, g2⟩ := h.devs d hd
    have e1 : itemL (.dev d.bare) ≤ 232 := by
      refine Nat.le_trans (item_len (n := 11) (by simp [Item.words, devW, Dev.bare]; omega) fun w hw => ?_) (by omega)
      simp only [Item.words, devW, Dev.bare, List.mem_cons, List.mem_map] at hw
      rcases hw with rfl | rfl | rfl | rfl | rfl | ⟨x, hx, rfl⟩
      · decide
      · exact i64_w h1
      · exact i64_w h2
      · exact i64_w h3
      · exact numW_len (by omega) (by omega)
      · exact i64_w (h5 x hx)
    have e2 : itemsL (d.regs.map .reg) ≤ 8 * 46 := by
      refine Nat.le_trans (items_le _ 46 _ fun r hr => ?_) (mul_mono g1)
      obtain ⟨k1, k2⟩ := h6 r hr
      have hj : itemL (.reg r) ≤ 46 := by
        unfold itemL Item.line
        have hnum : (numW r.reset).length ≤ 20 := numW_len (by omega) (by omega)
        simp only [Item.words, rgW, joinW, List.length_append, List.length_cons, keptW_len]
        have : kwG.length = 3 := rfl
        omega
      exact hj
    rw [Dev.items, itemsL_cons]
    omega
  omega
/-! ### a text is read as it was printed -/
theorem parse_none {t : List UInt8} (hc : contF soc0 t = none) : parseF (strOf t) = (2, soc0) := by
  unfold parseF readF
  split
  · rename_i h
    rfl
  · rename_i s h
    exfalso
    revert h
    split
    · intro h; cases h
    · intro h
      rw [show (strOf t).data.toList = t from by simp [strOf], hc] at h
      cases h
/-- what is parsed is right -/
theorem parse_back {t : ByteArray} {e : Int} {s : Soc} (h : parseF t = (e, s)) : (e = 0 ∧ s.can ∧ checkS s = 0 ∧ contF soc0 t.data.toList = some s ∧ t.size ≤ 8000) ∨ (e ≠ 0 ∧ s = soc0) := by
  unfold parseF at h
  cases hr : readF t with
  | none => rw [hr] at h; cases h; exact .inr ⟨by decide, rfl⟩
  | some x =>
    rw [hr] at h
    dsimp only at h
    unfold readF at hr
    split at hr
    · cases hr
    · split at h
      · rename_i h0
        cases h
        exact .inl ⟨rfl, contF_can hr, h0, hr, by omega⟩
      · rename_i h0
        cases h
        exact .inr ⟨h0, rfl⟩
end Go.Proofs.YtgopaoidgcgalaaGreatDoor
