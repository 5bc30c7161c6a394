/- Ranging over a map: frames beside an iterator. -/
import Derived.Test.YtpmgdaoofalpnaaGreatDoorE3
import Derived.Maps.RangeRun
import Derived.MakeChecks
import Derived.FnData
import Derived.Sort.Grow
import Derived.Sort.EncStr
import Derived.Lib.Join
import Derived.Lib.LaidTab
import Derived.Lib.AtoiAll
import Derived.Lib.ItoaNum
import Derived.Lib.ConvBytes
import Derived.Lib.AtoiErrMem
import Derived.Lib.QuietBelow
import Derived.Lib.LazyBuf
set_option linter.unusedVariables false
set_option linter.unusedSimpArgs false
set_option linter.unusedSectionVars false
namespace Abs
open Go

section
variable {A : AProg} {D : Nat → Prop} {G : Gh} {ρ : Nat → Option Nat} {σ : ASt} {a : Act} {w : World} {P : Program} {K : Nat → Option Nat}

theorem Fr.wide {D2 : Nat → Prop} (h : Fr A D G ρ σ a w) (hd : ∀ b, D b → D2 b) : Fr A D2 G ρ σ a w :=
  { h with
    reg := fun r cs e => by obtain ⟨b, c, e, h1, h2, h3, h4, h5⟩ := h.reg r cs e; exact ⟨b, c, e, h1, h2, h3, hd b h4, h5⟩
    dwr := fun b e => hd b (h.dwr b e)
    dnew := fun b e => hd b (h.dnew b e) }

theorem Fr.excl (h : Fr A D G ρ σ a w) {r : Nat} (hf : Free D G ρ σ r) (hlt : r < w.heap.size) : Fr A (fun b => D b ∧ b ≠ r) G ρ σ a w :=
  { h with
    reg := fun q cs e => by
      obtain ⟨b, c, e1, h1, h2, h3, h4, h5⟩ := h.reg q cs e
      exact ⟨b, c, e1, h1, h2, h3, ⟨h4, by rintro rfl; exact hf.reg q cs e h1⟩, h5⟩
    dwr := fun b e => ⟨h.dwr b e, by
      obtain ⟨id, o, x, _, h1, h2, h3, rfl⟩ := e
      exact hf.obj id o x h1 h2 h3⟩
    dnew := fun b e => ⟨h.dnew b e, by omega⟩ }

/- the iterator's block: known by an object of no row -/
theorem Fr.iter (h : Fr A D G ρ σ a w) (o : Obj) : ∃ G', Fr A D G' ρ { σ with S := σ.S.new (.rows 1 []) } a (w.alloc o) ∧ Ext D G w G' (w.alloc o) ∧ Free D G' ρ { σ with S := σ.S.new (.rows 1 []) } w.heap.size ∧ G'.ι σ.S.n = some (w.heap.size, 1, 0) := by
  obtain ⟨h1, h2⟩ := h.made o (sz := 1) (N := 0) (ao := .rows 1 []) ⟨rfl, by omega, by simp, .inl rfl⟩
  refine ⟨_, h1, h2, ⟨h.dnew _ (Nat.le_refl _), ?_, ?_, ?_⟩, by simp [Gh.made]⟩
  · intro off hp
    have : G.P w.heap.size off := hp
    have := h.sim.lt _ _ this
    omega
  · intro id ob x e hx h0 hb
    simp only [AS.new] at e
    simp only [Gh.made] at hx
    split at e
    · rename_i hid
      rw [if_pos hid] at hx; cases hx
      exact absurd h0 (by simp)
    · rename_i hid
      rw [if_neg hid] at hx
      obtain ⟨y, hy, ho⟩ := h.sim.obj id ob e
      rw [hx] at hy; cases hy
      have := ho.lt h0
      omega
  · intro q cs e hb
    have := h.reg_lt e hb
    omega

/- it stays free -/
theorem Free.later {G' : Gh} {ρ' : Nat → Option Nat} {σ' : ASt} {a' : Act} {w w' : World} {r : Nat} (hf : Free D G ρ σ r) (hF : Fr A (fun b => D b ∧ b ≠ r) G' ρ' σ' a' w') (hx : Ext (fun b => D b ∧ b ≠ r) G w G' w')
    (hlow : ∀ id o x, id < σ'.S.ro → σ'.S.heap id = some o → G'.ι id = some x → 0 < x.2.2 → x.1 ≠ r) : Free D G' ρ' σ' r where
  d := hf.d
  p := fun off hp => (hx.new r off hp).elim (hf.p off) fun h => h.2 rfl
  obj := fun id o x e hi h0 hb => by
    by_cases hid : id < σ'.S.ro
    · exact hlow id o x hid e hi h0 hb
    · exact (hF.dwr r ⟨id, o, x, by omega, e, hi, h0, hb⟩).2 rfl
  reg := fun q cs e hb => by
    obtain ⟨b, _, _, h1, _, _, h4, _⟩ := hF.reg q cs e
    rw [hb] at h1; cases h1
    exact h4.2 rfl

open Go.ChangeMaps (setBlock) in
/- the iterator's block is written -/
theorem Fr.stepIter {r : Nat} (hF : Fr A (fun b => D b ∧ b ≠ r) G ρ σ a w) (hf : Free D G ρ σ r) {o : Obj} (hr : w.heap[r]? = some o) (o' : Obj) :
    Fr A (fun b => D b ∧ b ≠ r) G ρ σ a (setBlock w r o') ∧ Ext D G w G (setBlock w r o') ∧ (setBlock w r o').heap[r]? = some o' ∧ (∀ b, b ≠ r → (setBlock w r o').heap[b]? = w.heap[b]?) := by
  have hlt := lt_of_heap hr
  have hset := heap_setObj (o := o') hr
  have hh : (setBlock w r o').heap = w.heap.setIfInBounds r o' := rfl
  have e1 : (setBlock w r o').heap[r]? = some o' := by rw [hh]; exact hset.1
  have e2 : ∀ b, b ≠ r → (setBlock w r o').heap[b]? = w.heap[b]? := fun b hb => by rw [hh]; exact hset.2.1 b hb
  obtain ⟨h1, h2⟩ := (hF.wide fun b h => h.1).write (w' := setBlock w r o') hf (by rw [hh]; simp) e2 ⟨rfl, rfl, rfl⟩
  exact ⟨h1.excl hf (by rw [hh]; simpa using hlt), h2, e1, e2⟩

/- steps that write nothing old -/
def ASt.still (σ : ASt) : ASt := { σ with S := { σ.S with ro := σ.S.n } }

theorem Fr.still (h : Fr A D G ρ σ a w) (hrg : ∀ r, σ.rg r = none) : Fr A (fun b => w.heap.size ≤ b) G ρ σ.still a w where
  defers := h.defers
  size := h.size
  tmp := h.tmp
  reg := fun r cs e => by rw [show σ.still.rg r = σ.rg r from rfl, hrg r] at e; cases e
  rinj := h.rinj
  rhp := h.rhp
  sim := sim_ro h.sim (P' := G.P) h.sim.lt (fun _ _ h => h)
  dwr := fun b e => absurd e (wr_ro (P' := G.P) h.sim)
  dnew := fun b e => e
  glob := h.glob

theorem Fr.unstill {G' : Gh} {ρ' : Nat → Option Nat} {σ1 : ASt} {a' : Act} {w' : World} (h : Fr A D G ρ σ a w) (h' : Fr A (fun b => w.heap.size ≤ b) G' ρ' σ1 a' w') (hx : Ext (fun b => w.heap.size ≤ b) G w G' w') (hS : σ1.S = σ.still.S) (hrg : ∀ r, σ1.rg r = none) :
    Fr A D G' ρ' { σ1 with S := σ.S } a' w' where
  defers := h'.defers
  size := h'.size
  tmp := h'.tmp
  reg := fun r cs e => by rw [show ({ σ1 with S := σ.S } : ASt).rg r = σ1.rg r from rfl, hrg r] at e; cases e
  rinj := h'.rinj
  rhp := fun r cs b id o x e => by rw [show ({ σ1 with S := σ.S } : ASt).rg r = σ1.rg r from rfl, hrg r] at e; cases e
  sim :=
    { obj := fun id o e => h'.sim.obj id o (by rw [hS]; exact e)
      fresh := fun id e => by
        have := h'.sim.fresh id (by rw [hS]; exact e)
        rw [hS] at this; exact this
      inj := fun id id' o o' x x' e e' => h'.sim.inj id id' o o' x x' (by rw [hS]; exact e) (by rw [hS]; exact e')
      own := fun id o x off hr e hx' h0 hp => by
        obtain ⟨y, hy, ho⟩ := h.sim.obj id o e
        have := hx.ι _ _ hy
        rw [hx'] at this; cases this
        rcases hx.new _ _ hp with hp | hp
        · exact h.sim.own id o _ off hr e hy h0 hp
        · have := ho.lt h0; omega
      lt := h'.sim.lt
      ro := h.sim.ro }
  dwr := fun b e => by
    obtain ⟨id, o, x, hr, e, hx', h0, rfl⟩ := e
    obtain ⟨y, hy, ho⟩ := h.sim.obj id o e
    have := hx.ι _ _ hy
    rw [hx'] at this; cases this
    exact h.dwr _ ⟨id, o, _, hr, e, hy, h0, rfl⟩
  dnew := fun b e => h.dnew b (h'.dnew b e)
  glob := h'.glob

theorem Free.still {G' : Gh} {ρ' : Nat → Option Nat} {σ1 : ASt} {a' : Act} {w' : World} {r : Nat} (hF : Fr A D G ρ σ a w) (hf : Free D G ρ σ r) (hr : r < w.heap.size) (hx : Ext (fun b => w.heap.size ≤ b) G w G' w') (hrg : ∀ r, σ1.rg r = none) :
    Free D G' ρ' { σ1 with S := σ.S } r where
  d := hf.d
  p := fun off hp => (hx.new r off hp).elim (hf.p off) fun h => by omega
  obj := fun id o x e hi h0 hb => by
    obtain ⟨y, hy, _⟩ := hF.sim.obj id o e
    have := hx.ι _ _ hy
    rw [hi] at this; cases this
    exact hf.obj id o _ e hy h0 hb
  reg := fun q cs e => by rw [show ({ σ1 with S := σ.S } : ASt).rg q = σ1.rg q from rfl, hrg q] at e; cases e

theorem still_part {R : ACode → ASt → Option (AExit × ASt)} (hA : Ok P A K) (hR : RunOk P A K R) {ops : Array Oper} {Q : Exit → Act → World → Prop} {rest : List Nat} (n k : Nat) (is : List AIns) (σ1 : ASt)
    (hK : G.K = K) (hF : Fr A D G ρ σ a w) (hrg : ∀ r, σ.rg r = none) (hj : ∀ j, j < n → ∃ o i, ops[k + j]? = some o ∧ is[j]? = some i ∧ okIns P K ops o i = true) (hl : is.length = n) (hs : steps A R is σ.still = some σ1) (hS1 : σ1.S = σ.still.S) (hrg1 : ∀ r, σ1.rg r = none)
    (hQ : ∀ G' ρ' a' w', Fr A D G' ρ' { σ1 with S := σ.S } a' w' → Ext (fun b => w.heap.size ≤ b) G w G' w' → wpOps P ops Q rest a' w') : wpOps P ops Q (List.range' k n ++ rest) a w :=
  steps_part (D := fun b => w.heap.size ≤ b) hA hR n k is σ.still σ1 G ρ a w hK (hF.still hrg) hj hl hs fun G' ρ' a' w' h1 h2 => hQ G' ρ' a' w' (hF.unstill h1 h2 hS1 hrg1) h2

theorem hand_op {ops : Array Oper} {Q : Exit → Act → World → Prop} {k : Nat} {rest : List Nat} {o : Oper} {x : Value} {w' : World} (ho : ops[k]? = some o) (hg : o.guard = none) (hrun : (execOp a.eval o).run P w = .ok (.value x) w')
    (h : wpOps P ops Q rest (a.put o.dst x) w') : wpOps P ops Q (k :: rest) a w := by
  rw [wpOps_cons]
  unfold wpOp
  rw [ho]
  have hw : Region.wanted o (yielded ops a.tmps) = true := by unfold Region.wanted; rw [hg]
  simp only [hw, if_true]
  left
  unfold Oper.wp
  rw [hrun]
  exact h

/- a map of scalars -/
def esOf (ms : List MapEntry) : List (Value × AV) := ms.map fun e => (e.key, .sc e.val)

def allSc (es : List (Value × AV)) : Bool := es.all fun e => match e.2 with | .sc _ => true | _ => false

theorem esOf_of : ∀ {es : List (Value × AV)} {ms : List MapEntry}, es.map (·.1) = ms.map (·.key) → RepL G w (es.map (·.2)) (ms.map (·.val)) → allSc es = true → es = esOf ms ∧ ∀ e ∈ ms, scal e.val = true
  | [], [], _, _, _ => ⟨rfl, by simp⟩
  | [], _ :: _, h, _, _ => by simp at h
  | _ :: _, [], h, _, _ => by simp at h
  | (k, v) :: es, e :: ms, h, hr, hs => by
    simp only [List.map_cons, List.cons.injEq] at h
    simp only [allSc, List.all_cons, Bool.and_eq_true] at hs
    simp only [List.map_cons] at hr
    cases hr with
    | cons h1 h2 =>
      obtain ⟨e1, e2⟩ := esOf_of h.2 h2 hs.2
      cases v with
      | sc u =>
        cases h1 with
        | sc hu =>
          refine ⟨?_, ?_⟩
          · rw [e1]; simp only [esOf, List.map_cons, h.1]
          · intro x hx
            rcases List.mem_cons.1 hx with rfl | hx
            · exact hu
            · exact e2 x hx
      | _ => simp at hs

theorem repL_esOf : ∀ {ms : List MapEntry}, (∀ e ∈ ms, scal e.val = true) → RepL G w ((esOf ms).map (·.2)) (ms.map (·.val))
  | [], _ => .nil
  | e :: ms, h => .cons (.sc (h e (by simp))) (repL_esOf fun x hx => h x (by simp [hx]))

theorem keys_esOf {ms : List MapEntry} : (esOf ms).map (·.1) = ms.map (·.key) := by
  induction ms with
  | nil => rfl
  | cons e ms ih => simp only [esOf, List.map_cons] at ih ⊢; rw [ih]

theorem sameKey_true {a b : Value} (h : sameKey a b = some true) : a = b := by
  cases a <;> cases b <;> simp only [sameKey] at h <;> try (cases h; done)
  · split at h
    · rename_i hk; simp only [Option.some.injEq, beq_iff_eq] at h; rw [hk, h]
    · cases h
  · simp only [Option.some.injEq] at h; rw [ba_beq.1 h]

theorem findNow_mem {str : Bool} {d : TypeDesc} (hd : (str = true ∧ d = .string) ∨ (str = false ∧ ∃ k, d = .int k)) : ∀ {ms : List MapEntry} {i : Nat} {e : MapEntry}, (∀ x ∈ ms, isStr x.key = str) → (∀ x ∈ ms, ∀ y ∈ ms, ∃ b, sameKey x.key y.key = some b) → (ms.map (·.key)).Nodup → e ∈ ms →
    ∃ j, ms[j]? = some e ∧ Instr.findNow d e.key ms i = some (some (i + j, e.val))
  | [], _, _, _, _, _, h => by cases h
  | x :: ms, i, e, hk, hsame, hn, h => by
    obtain ⟨b, hb⟩ := hsame e h x (by simp)
    have hb' := sameNow_key hd (hk e h) hb
    simp only [Instr.findNow, hb']
    cases b with
    | true =>
      have hkey : e.key = x.key := sameKey_true hb
      have : e = x := by
        rcases List.mem_cons.1 h with h | h
        · exact h
        · simp only [List.map_cons, List.nodup_cons] at hn
          have : e.key ∈ ms.map (·.key) := List.mem_map_of_mem (f := fun x : MapEntry => x.key) h
          rw [hkey] at this
          exact absurd this hn.1
      subst this
      exact ⟨0, rfl, rfl⟩
    | false =>
      have hne : e ≠ x := by rintro rfl; exact sameKey_refl hb rfl
      have hm : e ∈ ms := (List.mem_cons.1 h).resolve_left hne
      simp only [List.map_cons, List.nodup_cons] at hn
      obtain ⟨j, h1, h2⟩ := findNow_mem hd (i := i + 1) (fun y hy => hk y (by simp [hy])) (fun y hy z hz => hsame y (by simp [hy]) z (by simp [hz])) hn.2 hm
      exact ⟨j + 1, by simpa using h1, by rw [h2, Nat.add_assoc, Nat.add_comm 1 j]⟩

theorem erase_filter : ∀ {ms : List MapEntry} {j : Nat} {e : MapEntry}, (ms.map (·.born)).Nodup → ms[j]? = some e → ms.eraseIdx j = ms.filter fun x => x.born != e.born
  | [], _, _, _, h => by simp at h
  | x :: ms, 0, e, hn, h => by
    simp at h; subst h
    simp only [List.map_cons, List.nodup_cons] at hn
    simp only [List.eraseIdx_cons_zero, List.filter_cons, bne_self_eq_false, Bool.false_eq_true, if_false]
    rw [List.filter_eq_self.2]
    intro y hy
    have : y.born ≠ x.born := by
      rintro hb
      exact hn.1 (by rw [← hb]; exact List.mem_map_of_mem (f := fun x : MapEntry => x.born) hy)
    simpa using this
  | x :: ms, j + 1, e, hn, h => by
    simp at h
    simp only [List.map_cons, List.nodup_cons] at hn
    have hm : e ∈ ms := List.mem_of_getElem? h
    have : x.born ≠ e.born := by
      rintro hb
      exact hn.1 (by rw [hb]; exact List.mem_map_of_mem (f := fun x : MapEntry => x.born) hm)
    have hb : (x.born != e.born) = true := by simpa using this
    simp only [List.eraseIdx_cons_succ, List.filter_cons, hb, if_true, erase_filter hn.2 h]

/- a round of a loop that throws out what is not kept -/
theorem round_filter {ms0 ms : List MapEntry} {keep : MapEntry → Bool} {seen : Array Nat} {e : MapEntry} (hm : ms = ms0.filter fun x => keep x || !seen.contains x.born) (hn : (ms0.map (·.born)).Nodup) (he : e ∈ ms) :
    (keep e = true → ms = ms0.filter fun x => keep x || !(seen.push e.born).contains x.born) ∧
    (keep e = false → ∀ j, ms[j]? = some e → ms.eraseIdx j = ms0.filter fun x => keep x || !(seen.push e.born).contains x.born) := by
  have hmem : e ∈ ms0 := by rw [hm] at he; exact (List.mem_filter.1 he).1
  have inj : ∀ x ∈ ms0, x.born = e.born → x = e := by
    intro x hx hb
    clear hm he
    induction ms0 with
    | nil => cases hx
    | cons y l ih =>
      simp only [List.map_cons, List.nodup_cons] at hn
      rcases List.mem_cons.1 hx with rfl | hx2
      · rcases List.mem_cons.1 hmem with h | h
        · exact h.symm
        · have := List.mem_map_of_mem (f := fun x : MapEntry => x.born) h
          simp only [← hb] at this
          exact absurd this hn.1
      · rcases List.mem_cons.1 hmem with rfl | h
        · have := List.mem_map_of_mem (f := fun x : MapEntry => x.born) hx2
          simp only [hb] at this
          exact absurd this hn.1
        · exact ih hn.2 h hx2
  constructor
  · intro hk
    rw [hm]
    apply List.filter_congr
    intro x hx
    by_cases hb : x.born = e.born
    · rw [inj x hx hb, hk]; simp
    · have : (seen.push e.born).contains x.born = seen.contains x.born := by
        simp only [Array.contains_push]
        have : (x.born == e.born) = false := by simpa using hb
        simp [this]
      rw [this]
  · intro hk j hj
    have hn' : (ms.map (·.born)).Nodup := by rw [hm]; exact (List.filter_sublist.map _).nodup hn
    rw [erase_filter hn' hj, hm, List.filter_filter]
    apply List.filter_congr
    intro x hx
    by_cases hb : x.born = e.born
    · rw [inj x hx hb, hk]; simp
    · have h1 : (x.born == e.born) = false := by simpa using hb
      simp only [Array.contains_push, bne, h1, Bool.not_false, Bool.true_and, Bool.false_or, Bool.or_false]

end
end Abs

namespace Abs
open Go

section
variable {P : Program} {K : Nat → Option Nat} {m : Nat → Mode} {ext : Nat → Bool} {c : Code}

theorem inv_seq {a b : ACode} (h : okCode P K m ext c (.seq a b) = true) : ∃ x y, c = .seq x y ∧ okCode P K m ext x a = true ∧ okCode P K m ext y b = true := by
  cases c with
  | seq x y => simp only [okCode, Bool.and_eq_true] at h; exact ⟨x, y, rfl, h.1, h.2⟩
  | _ => simp [okCode] at h
theorem inv_cond {a : AArg} {x' y' : ACode} (h : okCode P K m ext c (.cond a x' y') = true) : ∃ o x y, c = .cond o x y ∧ okArg K a o = true ∧ okCode P K m ext x x' = true ∧ okCode P K m ext y y' = true := by
  cases c with
  | cond o x y => simp only [okCode, Bool.and_eq_true] at h; exact ⟨o, x, y, rfl, h.1.1, h.1.2, h.2⟩
  | _ => simp [okCode] at h
theorem inv_block {i : Nat} {b : ACode} (h : okCode P K m ext c (.block i b) = true) : ∃ x, c = .block i x ∧ okCode P K m ext x b = true := by
  cases c with
  | block j x => simp only [okCode, Bool.and_eq_true, beq_iff_eq] at h; exact ⟨x, by rw [h.1], h.2⟩
  | _ => simp [okCode] at h
theorem inv_loop {tm rg : List Nat} {b : ACode} (h : okCode P K m ext c (.loop tm rg b) = true) : ∃ x, c = .loop x ∧ okCode P K m ext x b = true := by
  cases c with
  | loop x => simp only [okCode] at h; exact ⟨x, rfl, h⟩
  | _ => simp [okCode] at h
theorem inv_skip (h : okCode P K m ext c .skip = true) : c = .skip := by
  cases c <;> first | rfl | simp [okCode] at h
theorem inv_ret (h : okCode P K m ext c .ret = true) : c = .ret := by
  cases c <;> first | rfl | simp [okCode] at h
theorem inv_exit {i : Nat} (h : okCode P K m ext c (.exit i) = true) : c = .exit i := by
  cases c with
  | exit j => simp only [okCode, beq_iff_eq] at h; rw [h]
  | _ => simp [okCode] at h
/- a region of more than one operation -/
theorem inv_ops {i j : AIns} {l : List AIns} (h : okCode P K m ext c (.ops (i :: j :: l)) = true) : ∃ id os draw, c = .region id os draw ∧ okOps P K os os.toList (i :: j :: l) = true ∧ (draw = true → okDraw P os ((i :: j :: l).map (foot m ext)) = true) := by
  cases c with
  | region id os draw =>
    simp only [okCode, Bool.and_eq_true, Bool.or_eq_true, Bool.not_eq_true'] at h
    exact ⟨id, os, draw, rfl, h.1, fun e => by rcases h.2 with h | h; · rw [e] at h; cases h
                                               · exact h⟩
  | _ => simp [okCode] at h

/- no region is drawn -/
def noDraw : Code → Bool
  | .region _ _ d => !d
  | .seq a b => noDraw a && noDraw b
  | .cond _ a b => noDraw a && noDraw b
  | .block _ c | .loop c | .scope c => noDraw c
  | _ => true

theorem okOps_cons {os : Array Oper} {l : List Oper} {i : AIns} {is : List AIns} (h : okOps P K os l (i :: is) = true) : ∃ o l', l = o :: l' ∧ okIns P K os o i = true ∧ okOps P K os l' is = true := by
  cases l with
  | nil => simp [okOps] at h
  | cons o l => simp only [okOps, Bool.and_eq_true] at h; exact ⟨o, l, rfl, h.1, h.2⟩

/- operation and instruction at each place -/
theorem okOps_at {os : Array Oper} {is : List AIns} (h : okOps P K os os.toList is = true) : os.size = is.length ∧ ∀ j, j < is.length → ∃ o i, os[j]? = some o ∧ is[j]? = some i ∧ okIns P K os o i = true := by
  obtain ⟨h1, h2⟩ := okOps_get h
  refine ⟨by simpa using h1, fun j hj => ?_⟩
  have hj' : j < os.size := by have : os.size = is.length := by simpa using h1
                               omega
  obtain ⟨i, h3, h4⟩ := h2 j os[j] (by simp [hj'])
  exact ⟨os[j], i, by simp [hj'], h3, h4⟩

end
end Abs

namespace Abs
open Go

section
variable {A : AProg} {D : Nat → Prop} {G : Gh} {ρ : Nat → Option Nat} {σ : ASt} {a : Act} {w : World} {P : Program} {K : Nat → Option Nat}

theorem run_range {ev : Operand → Value} {o : Oper} {t : TypeId} {x : Operand} {k e : TypeId} {b : Nat} {ms : Array MapEntry} {cl : Nat} (ho : o.op = .range t x) (hu : P.underlying t = some (.map k e)) (hx : ev x = .map (some b)) (hb : w.heap[b]? = some (.map ms cl)) :
    (execOp ev o).run P w = .ok (.value (.pointer (some ⟨w.heap.size, 0, none⟩))) (w.alloc (.mapIter (some b) cl #[] cl)) := by
  unfold execOp; rw [ho]
  simp only [Instr.range, hx, Sem.run_bind, und hu, run_getObj hb, Result.andThen_ok, Sem.run_pure]
  rfl

theorem run_nextOp {ev : Operand → Value} {o : Oper} {x : Operand} {r : Nat} (ho : o.op = .next x false) (hx : ev x = .pointer (some ⟨r, 0, none⟩)) {v : Value} {w' : World} (h : (Instr.next (.pointer (some ⟨r, 0, none⟩)) false o.type).run P w = .ok v w') :
    (execOp ev o).run P w = .ok (.value v) w' := by
  unfold execOp; rw [ho]
  simp only [hx, Sem.run_bind, h, Result.andThen_ok, Sem.run_pure]

theorem run_entryOp {ev : Operand → Value} {o : Oper} {x : Operand} {r : Nat} (ho : o.op = .entry x) (hx : ev x = .pointer (some ⟨r, 0, none⟩)) {v : Value} {w' : World} (h : (Instr.entry (.pointer (some ⟨r, 0, none⟩))).run P w = .ok v w') :
    (execOp ev o).run P w = .ok (.value v) w' := by
  unfold execOp; rw [ho]
  simp only [hx, Sem.run_bind, h, Result.andThen_ok, Sem.run_pure]

def pruneKeep (now : Int) (e : MapEntry) : Bool := match e.val with | .int _ n => decide (now < n) | _ => false

theorem okIns_inv {os : Array Oper} {o : Oper} {d : Option Nat} {op : AOp} {xs : List AArg} (h : okIns P K os o ⟨d, op, xs, none⟩ = true) : o.dst = d ∧ okOp P K o.op op xs = true ∧ o.guard = none := by
  simp only [okIns, Bool.and_eq_true, beq_iff_eq] at h
  refine ⟨h.1.1, h.1.2, ?_⟩
  have := h.2
  split at this
  · assumption
  · rename_i e; cases e
  · cases this

theorem okNext_inv {o : Op} {it : Nat} (h : okOp P K o .nextM [.t it] = true) : o = .next (.tmp it) false := by
  simp only [okOp] at h
  split at h
  · rename_i x
    cases x <;> simp [okArgs, okArg] at h
    rw [h]
  · cases h

theorem okEntry_inv {o : Op} {it : Nat} (h : okOp P K o .entryM [.t it] = true) : o = .entry (.tmp it) := by
  simp only [okOp] at h
  split at h
  · rename_i x
    cases x <;> simp [okArgs, okArg] at h
    rw [h]
  · cases h

open Go.ChangeMaps (setBlock) in
/- the iterator's step at a frame -/
theorem next_frame {r b since c0 cl : Nat} {seen : Array Nat} {ms : Array MapEntry} (hF : Fr A D G ρ σ a w) (hf : Free D G ρ σ r) (hr : w.heap[r]? = some (.mapIter (some b) since seen c0)) (hb : w.heap[b]? = some (.map ms cl)) (hne : b ≠ r)
    (hold : ∀ x ∈ ms.toList, x.born < since) (hsc : since ≤ c0) (ty : TypeId) :
    ((leftOf ms seen).size = 0 ∧ (Instr.next (.pointer (some ⟨r, 0, none⟩)) false ty).run P w = .ok (.tuple #[.bool false]) w) ∨
    ∃ e ∈ (leftOf ms seen).toList, ∃ w', (Instr.next (.pointer (some ⟨r, 0, none⟩)) false ty).run P w = .ok (.tuple #[.bool true, e.key, e.val]) w' ∧ Fr A D G ρ σ a w' ∧ Ext D G w G w' ∧ w'.heap[r]? = some (.mapIter (some b) since (seen.push e.born) cl) ∧ w'.heap[b]? = some (.map ms cl) ∧ w'.heap.size = w.heap.size := by
  rcases run_next_at (P := P) w ty r b since c0 seen ms cl hr hb hold hsc with h | ⟨e, he, w1, hw1, hrun⟩
  · exact .inl h
  · right
    have hh : w1.heap = w.heap := by rcases hw1 with rfl | rfl <;> rfl
    have hio : Io w w1 := by rcases hw1 with rfl | rfl <;> exact ⟨rfl, rfl, rfl⟩
    obtain ⟨k1, k2⟩ := hF.same hh hio
    have hr1 : w1.heap[r]? = some (.mapIter (some b) since seen c0) := by rw [hh]; exact hr
    obtain ⟨m1, m2, m3, m4⟩ := (k1.excl hf (lt_of_heap hr1)).stepIter hf hr1 (.mapIter (some b) since (seen.push e.born) cl)
    refine ⟨e, he, _, hrun, m1.wide (fun _ h => h.1), k2.trans m2, m3, ?_, ?_⟩
    · rw [m4 b hne, hh]; exact hb
    · show (w1.heap.setIfInBounds _ _).size = _
      rw [Array.size_setIfInBounds, hh]

/- the region of a loop over a map that asks for the next entry -/
theorem next_region {R : ACode → ASt → Option (AExit × ASt)} (hA : Ok P A K) (hR : RunOk P A K R) (hK : G.K = K) {os : Array Oper} {Q : Exit → Act → World → Prop} {d d2 it iid : Nat}
    (hok : okOps P K os os.toList [⟨some d, .nextM, [.t it], none⟩, ⟨some d2, .pur (.extract 0), [.t d], none⟩] = true)
    {r b N since c0 cl : Nat} {seen : Array Nat} {ms : Array MapEntry} (hF : Fr A D G ρ σ a w) (hrg : ∀ r, σ.rg r = none) (hf : Free D G ρ σ r) (hit : σ.tm[it]? = some (.ptr iid 0 0)) (hι : G.ι iid = some (r, 1, N)) (hd : d < σ.tm.length)
    (hr : w.heap[r]? = some (.mapIter (some b) since seen c0)) (hb : w.heap[b]? = some (.map ms cl)) (hne : b ≠ r) (hold : ∀ x ∈ ms.toList, x.born < since) (hsc : since ≤ c0) (hs1 : ∀ e ∈ ms.toList, scal e.key = true) (hs2 : ∀ e ∈ ms.toList, scal e.val = true)
    (hend : (leftOf ms seen).size = 0 → ∀ G' ρ' a' w', Fr A D G' ρ' { σ with tm := (σ.tm.set d (.tup [.b false])).set d2 (.b false) } a' w' → Ext (fun b => w.heap.size ≤ b) G w G' w' → Q .normal a' w')
    (hgo : ∀ e ∈ (leftOf ms seen).toList, e ∈ ms.toList → ∀ G' ρ' a' w', Fr A D G' ρ' { σ with tm := (σ.tm.set d (.tup [.b true, .sc e.key, .sc e.val])).set d2 (.b true) } a' w' → Ext D G w G' w' → Free D G' ρ' { σ with tm := (σ.tm.set d (.tup [.b true, .sc e.key, .sc e.val])).set d2 (.b true) } r →
      w'.heap[r]? = some (.mapIter (some b) since (seen.push e.born) cl) → w'.heap[b]? = some (.map ms cl) → Q .normal a' w') :
    wpOps P os Q (List.range os.size) a w := by
  obtain ⟨hsz, hat⟩ := okOps_at hok
  obtain ⟨o0, i0, ho0, hi0, hk0⟩ := hat 0 (by simp)
  simp at hi0; subst hi0
  obtain ⟨hdst, hop, hg⟩ := okIns_inv hk0
  have hop := okNext_inv hop
  have hx : a.eval (.tmp it) = .pointer (some ⟨r, 0, none⟩) := by
    have := hF.tmp it _ hit
    have : Rep G w (.ptr iid 0 0) (a.tmps.getD it undef) := this
    obtain ⟨b', sz', N', h1, h2⟩ := Rep.ptr_inv (x := a.tmps.getD it undef) this
    rw [hι] at h1; cases h1
    show a.tmps.getD it undef = _
    rw [h2]
    try simp
  have e2 : List.range os.size = 0 :: (List.range' 1 1 ++ []) := by rw [hsz]; rfl
  rw [e2]
  have rest : ∀ (u : AV) (c : Bool) (vs : List AV) (G1 : Gh) (a1 : Act) (w1 : World), u = .tup (.b c :: vs) → G1.K = K → Fr A D G1 ρ { σ with tm := σ.tm.set d u } a1 w1 →
      (∀ G' ρ' a' w', Fr A D G' ρ' { σ with tm := (σ.tm.set d u).set d2 (.b c) } a' w' → Ext (fun b => w1.heap.size ≤ b) G1 w1 G' w' → Q .normal a' w') → wpOps P os Q (List.range' 1 1 ++ []) a1 w1 := by
    intro u c vs G1 a1 w1 hu hK1 hF1 hq
    refine still_part hA hR (σ := { σ with tm := σ.tm.set d u }) 1 1 [⟨some d2, .pur (.extract 0), [.t d], none⟩] ({ σ with tm := (σ.tm.set d u).set d2 (.b c) } : ASt).still hK1 hF1 hrg ?_ rfl ?_ rfl hrg ?_
    · intro j hj
      have : j = 0 := by omega
      subst this
      obtain ⟨o, i, h1, h2, h3⟩ := hat 1 (by simp)
      simp at h2; subst h2
      exact ⟨o, _, h1, rfl, h3⟩
    · subst hu
      simp [steps, step, guardOk, evs, AArg.ev, ASt.still, doop, opev, pev, List.getD_eq_getElem?_getD, List.getElem?_set, hd, ASt.put, ASt.regs]
    · intro G' ρ' a' w' h1 h2
      exact hq G' ρ' a' w' h1 h2
  rcases next_frame (P := P) hF hf hr hb hne hold hsc o0.type with ⟨h0, hrun⟩ | ⟨e, he, w', hrun, hF', hx', hr', hb', hs'⟩
  · refine hand_op ho0 hg (run_nextOp hop hx hrun) ?_
    have hp := hF.put o0.dst (v := .tup [.b false]) (x := .tuple #[.bool false]) (Rep.trep (.tup (.cons (.sc rfl) .nil)))
    rw [hdst] at hp ⊢
    exact rest _ false [] G _ w rfl hK hp (hend h0)
  · refine hand_op ho0 hg (run_nextOp hop hx hrun) ?_
    have hm : e ∈ ms.toList := by
      unfold leftOf at he; simp at he ⊢; exact he.1
    have hp := hF'.put o0.dst (v := .tup [.b true, .sc e.key, .sc e.val]) (x := .tuple #[.bool true, e.key, e.val]) (Rep.trep (.tup (.cons (.sc rfl) (.cons (.sc (hs1 e hm)) (.cons (.sc (hs2 e hm)) .nil)))))
    rw [hdst] at hp ⊢
    refine rest _ true _ G _ w' rfl hK hp fun G' ρ' a' w2 h1 h2 => ?_
    have hsame : ∀ k o, w'.heap[k]? = some o → w2.heap[k]? = some o := fun k o hk => by rw [h2.keep k (lt_of_heap hk) (by have := lt_of_heap hk; omega)]; exact hk
    refine hgo e he hm G' ρ' a' w2 h1 (hx'.trans (h2.weak fun k hk => hF'.dnew k hk)) ?_ (hsame _ _ hr') (hsame _ _ hb')
    exact Free.still (a' := a') (ρ' := ρ') (σ1 := { σ with tm := (σ.tm.set d (.tup [.b true, .sc e.key, .sc e.val])).set d2 (.b true) }) hF' hf (lt_of_heap hr') h2 hrg

/- the entry that the iterator is at -/
theorem entry_op {os : Array Oper} {Q : Exit → Act → World → Prop} {d it iid : Nat} {o0 : Oper} {rest : List Nat} (ho0 : os[0]? = some o0) (hk0 : okIns P K os o0 ⟨some d, .entryM, [.t it], none⟩ = true)
    {r b N since cl : Nat} {seen : Array Nat} {ms : Array MapEntry} {e : MapEntry} (hF : Fr A D G ρ σ a w) (hit : σ.tm[it]? = some (.ptr iid 0 0)) (hι : G.ι iid = some (r, 1, N))
    (hr : w.heap[r]? = some (.mapIter (some b) since (seen.push e.born) cl)) (hb : w.heap[b]? = some (.map ms cl)) (he : e ∈ ms.toList) (hn : (ms.toList.map (·.born)).Nodup) (hs1 : scal e.key = true) (hs2 : scal e.val = true)
    (h : ∀ a', Fr A D G ρ { σ with tm := σ.tm.set d (.tup [.sc e.key, .sc e.val]) } a' w → wpOps P os Q rest a' w) : wpOps P os Q (0 :: rest) a w := by
  obtain ⟨hdst, hop, hg⟩ := okIns_inv hk0
  have hop := okEntry_inv hop
  have hx : a.eval (.tmp it) = .pointer (some ⟨r, 0, none⟩) := by
    have := hF.tmp it _ hit
    have : Rep G w (.ptr iid 0 0) (a.tmps.getD it undef) := this
    obtain ⟨b', sz', N', h1, h2⟩ := Rep.ptr_inv (x := a.tmps.getD it undef) this
    rw [hι] at h1; cases h1
    show a.tmps.getD it undef = _
    rw [h2]
    try simp
  refine hand_op ho0 hg (run_entryOp hop hx (run_entry_at w r b since seen ms cl e hr hb he hn)) ?_
  have hp := hF.put o0.dst (v := .tup [.sc e.key, .sc e.val]) (x := .tuple #[e.key, e.val]) (Rep.trep (.tup (.cons (.sc hs1) (.cons (.sc hs2) .nil))))
  rw [hdst] at hp ⊢
  exact h _ hp

theorem okDel_inv {o : Op} {x y : Nat} (h : okOp P K o (.mapdel true) [.t x, .t y] = true) : ∃ as ts t kt et d, o = .call { callee := .builtin .delete, args := as, argTypes := ts } ∧ as.toList = [.tmp x, .tmp y] ∧ ts[0]? = some t ∧ KeyT P t true kt et d := by
  simp only [okOp] at h
  split at h
  · rename_i as ts
    simp only [Bool.and_eq_true] at h
    obtain ⟨h1, h2⟩ := h
    split at h1
    · rename_i t ht
      simp only [beq_iff_eq] at h1
      obtain ⟨kt, et, d, hK⟩ := keyStr_inv h1
      refine ⟨as, ts, t, kt, et, d, rfl, ?_, ht, hK⟩
      generalize as.toList = l at h2
      match l, h2 with
      | [p, q], h2 =>
        simp only [okArgs, Bool.and_eq_true] at h2
        cases p <;> simp [okArg] at h2
        cases q <;> simp [okArg] at h2
        rw [h2.1, h2.2]
      | [], h2 => simp [okArgs] at h2
      | [_], h2 => simp [okArgs] at h2
      | _ :: _ :: _ :: _, h2 => simp [okArgs] at h2
    · cases h1
  · cases h

/- delete(m, k) at a frame, with the map's own entries -/
theorem del_op {os : Array Oper} {Q : Exit → Act → World → Prop} {x y k mid : Nat} {o : Oper} {rest : List Nat} (ho : os[k]? = some o) (hk : okIns P K os o ⟨none, .mapdel true, [.t x, .t y], none⟩ = true)
    {b sz N cl : Nat} {ms : Array MapEntry} {e : MapEntry} (hF : Fr A D G ρ σ a w) (hx : σ.tm[x]? = some (.mp mid)) (hy : σ.tm[y]? = some (.sc e.key)) (hι : G.ι mid = some (b, sz, N)) (hid : σ.S.ro ≤ mid) (hh : σ.S.heap mid = some (.map (esOf ms.toList)))
    (hb : w.heap[b]? = some (.map ms cl)) (he : e ∈ ms.toList) (hbn : Born ms cl) (hstr : ∀ e ∈ ms.toList, isStr e.key = true) (hs2 : ∀ e ∈ ms.toList, scal e.val = true)
    (h : ∀ j a', ms.toList[j]? = some e → Fr A D G ρ { σ with S := σ.S.set mid (some (.map (esOf (ms.toList.eraseIdx j)))) } a' { w with heap := w.heap.setIfInBounds b (.map (ms.eraseIdxIfInBounds j) cl) } →
      Ext D G w G { w with heap := w.heap.setIfInBounds b (.map (ms.eraseIdxIfInBounds j) cl) } → wpOps P os Q rest a' { w with heap := w.heap.setIfInBounds b (.map (ms.eraseIdxIfInBounds j) cl) }) : wpOps P os Q (k :: rest) a w := by
  obtain ⟨hdst, hop, hg⟩ := okIns_inv hk
  obtain ⟨as, ts, t, kt, et, d, ho', has, hts, hK⟩ := okDel_inv hop
  have hxv : a.eval (.tmp x) = .map (some b) := by
    have := hF.tmp x _ hx
    have : Rep G w (.mp mid) (a.tmps.getD x undef) := this
    obtain ⟨b', sz', N', h1, h2⟩ := Rep.mp_inv (x := a.tmps.getD x undef) this
    rw [hι] at h1; cases h1
    exact h2
  have hyv : a.eval (.tmp y) = e.key := by
    have := hF.tmp y _ hy
    have : Rep G w (.sc e.key) (a.tmps.getD y undef) := this
    generalize hq : a.tmps.getD y undef = q at this
    cases this
    exact hq
  have hsame : ∀ x ∈ ms.toList, ∀ y ∈ ms.toList, ∃ b, sameKey x.key y.key = some b := by
    intro x hx y hy
    have h1 := hstr x hx
    have h2 := hstr y hy
    revert h1 h2
    cases x.key <;> cases y.key <;> simp [isStr, sameKey]
  obtain ⟨j, hj, hn⟩ := findNow_mem hK.kind (i := 0) hstr hsame hbn.2.2 he
  rw [Nat.zero_add] at hn
  have harr : as.map a.eval = #[.map (some b), e.key] := by
    apply Array.toList_inj.1
    rw [Array.toList_map, has, List.map_cons, List.map_cons, List.map_nil, hxv, hyv]
  have hsc : ∀ e ∈ ms.toList, scal e.key = true := by
    intro x hx
    have := hstr x hx
    cases hk : x.key <;> rw [hk] at this <;> simp [isStr] at this
    rfl
  obtain ⟨k1, k2⟩ := hF.writeMap (es' := esOf (ms.toList.eraseIdx j)) (ms' := ms.eraseIdxIfInBounds j) (c' := cl) hid hh hι (by rw [keys_esOf, erase_toList]) (by rw [erase_toList]; exact repL_esOf fun x hx => hs2 x (List.mem_of_mem_eraseIdx hx))
    (by rw [List.all_eq_true]; intro p hp
        obtain ⟨q, hq, rfl⟩ := List.mem_map.1 hp
        exact hsc q (List.mem_of_mem_eraseIdx hq)) (hbn.sub (by rw [erase_toList]; exact List.eraseIdx_sublist _ _))
  refine hand_op (x := .tuple #[]) (w' := { w with heap := w.heap.setIfInBounds b (.map (ms.eraseIdxIfInBounds j) cl) }) ho hg ?_ ?_
  · rw [ex_builtin ho', harr]
    simp only [builtin, Builtin.delete_, hts, List.getElem?_toArray, List.getElem?_cons_zero, List.getElem?_cons_succ, Sem.run_bind, und hK.map, run_getObj hb, run_checkKey hK _ 9999, run_findKey hK.key hn, run_setObj hb, Result.andThen_ok, Sem.run_pure]
  · rw [hdst]
    exact h j _ hj k1 k2

end
end Abs

namespace Abs
open Go

section
variable {P : Program} {K : Nat → Option Nat}

/- the program without functions -/
def A0 (glob : Nat → Option AV) : AProg := { funcs := fun _ => none, mode := fun _ => .keep, ext := fun _ => none, glob }

theorem A0_ok : Ok P (A0 fun _ => none) K where
  fn := fun _ _ _ _ _ h => by cases h
  ext := fun _ _ _ _ h => by cases h
  low := fun _ _ h => by cases h
  frm := fun _ _ _ h => by cases h
  gpure := fun _ _ h => by cases h

theorem set_set' (S : AS) (id : Nat) (x y : Option AObj) : (S.set id x).set id y = S.set id y := by
  unfold AS.set
  simp only [AS.mk.injEq, and_true]
  funext j
  split <;> rfl
theorem lookup_mem {α : Type} {k : Nat} {v : α} : ∀ {l : List (Nat × α)}, List.lookup k l = some v → (k, v) ∈ l
  | [], h => by cases h
  | (a, b) :: l, h => by
    rw [List.lookup_cons] at h
    cases hb : (k == a) with
    | true =>
      rw [hb] at h
      have : k = a := by simpa using hb
      cases h; subst this; exact List.mem_cons_self
    | false => rw [hb] at h; exact List.mem_cons_of_mem _ (lookup_mem h)

/- a told function -/
structure FnOk (P : Program) (K : Nat → Option Nat) (m : Nat → Mode) (x : Nat → Bool) (key : Nat) (af : AFunc) : Prop where
  ok : ∀ f, K key = some f → enterable P f = true ∧ ∃ fn, P.funcs[f]? = some fn ∧ okFunc P K m x fn af = true

theorem FnOk.mk' {m : Nat → Mode} {x : Nat → Bool} {key f : Nat} {fn : Func} {af : AFunc} (hk : K key = some f) (he : enterable P f = true) (hf : P.funcs[f]? = some fn) (hok : okFunc P K m x fn af = true) : FnOk P K m x key af :=
  ⟨fun f' h => by rw [hk] at h; cases h; exact ⟨he, fn, hf, hok⟩⟩

/- a contract -/
structure ExOk (P : Program) (A : AProg) (K : Nat → Option Nat) (key : Nat) (g : List AV → AS → Option (AV × AS)) : Prop where
  ok : ∀ f, K key = some f → enterable P f = true ∧ CallOk P A K f g
  low : ∀ args S r S', g args S = some (r, S') → S.ro ≤ S.n → Low S S'
  frm : ∀ cols, A.mode key = .keepF cols → ∀ args S r S', g args S = some (r, S') → Frm cols S S'

theorem ExOk.mk' {A : AProg} {key f : Nat} {g : List AV → AS → Option (AV × AS)} (hk : K key = some f) (he : enterable P f = true) (hc : CallOk P A K f g) (hl : ∀ args S r S', g args S = some (r, S') → S.ro ≤ S.n → Low S S')
    (hfr : ∀ cols, A.mode key = .keepF cols → ∀ args S r S', g args S = some (r, S') → Frm cols S S' := by intro cols h; cases h) : ExOk P A K key g :=
  ⟨fun f' h => by rw [hk] at h; cases h; exact ⟨he, hc⟩, hl, hfr⟩

inductive AllFn (P : Program) (K : Nat → Option Nat) (m : Nat → Mode) (x : Nat → Bool) : List (Nat × AFunc) → Prop
  | nil : AllFn P K m x []
  | cons {k : Nat} {af : AFunc} {l : List (Nat × AFunc)} (h : FnOk P K m x k af) (t : AllFn P K m x l) : AllFn P K m x ((k, af) :: l)
theorem AllFn.mem {m : Nat → Mode} {x : Nat → Bool} {k : Nat} {af : AFunc} : ∀ {l : List (Nat × AFunc)}, AllFn P K m x l → (k, af) ∈ l → FnOk P K m x k af
  | _, .cons h t, hm => by
    rcases List.mem_cons.1 hm with h1 | h1
    · cases h1; exact h
    · exact t.mem h1
inductive AllEx (P : Program) (A : AProg) (K : Nat → Option Nat) : List (Nat × (List AV → AS → Option (AV × AS))) → Prop
  | nil : AllEx P A K []
  | cons {k : Nat} {g : List AV → AS → Option (AV × AS)} {l : List (Nat × (List AV → AS → Option (AV × AS)))} (h : ExOk P A K k g) (t : AllEx P A K l) : AllEx P A K ((k, g) :: l)
theorem AllEx.mem {A : AProg} {k : Nat} {g : List AV → AS → Option (AV × AS)} : ∀ {l : List (Nat × (List AV → AS → Option (AV × AS)))}, AllEx P A K l → (k, g) ∈ l → ExOk P A K k g
  | _, .cons h t, hm => by
    rcases List.mem_cons.1 hm with h1 | h1
    · cases h1; exact h
    · exact t.mem h1

def progOf (fs : List (Nat × AFunc)) (xs : List (Nat × (List AV → AS → Option (AV × AS)))) (m : Nat → Mode) (glob : Nat → Option AV) : AProg :=
  { funcs := fun k => List.lookup k fs, mode := m, ext := fun k => List.lookup k xs, glob }

theorem prog_ok {fs : List (Nat × AFunc)} {xs : List (Nat × (List AV → AS → Option (AV × AS)))} {m : Nat → Mode} {glob : Nat → Option AV} (hf : AllFn P K m (fun k => (List.lookup k xs).isSome) fs) (hx : AllEx P (progOf fs xs m glob) K xs) (hg : ∀ g v, glob g = some v → v.pure = true) : Ok P (progOf fs xs m glob) K where
  fn := fun key f af hk _ h => (hf.mem (lookup_mem h)).ok f hk
  ext := fun key f g hk h => (hx.mem (lookup_mem h)).ok f hk
  low := fun key g h => (hx.mem (lookup_mem h)).low
  frm := fun key g cols h hm => (hx.mem (lookup_mem h)).frm cols hm
  gpure := hg

end
end Abs

namespace Abs
open Go

mutual
def flatV : DataW Unit → Option (List Value)
  | .lit (.int k n) => some [.int k n]
  | .lit (.bool b) => some [.bool b]
  | .lit (.string l) => some [.string ⟨l.toArray⟩]
  | .agg ds => flatL ds
  | _ => none
def flatL : List (DataW Unit) → Option (List Value)
  | [] => some []
  | d :: l => (flatV d).bind fun a => (flatL l).map (a ++ ·)
end

/- types whose values are told cell by cell -/
def flatSet (P : Program) (L : List TypeId) : Bool := L.all fun t =>
  match P.underlying t with
  | some .bool | some (.int _) | some .string => P.cellsOf t == 1
  | some (.struct fs) => tile P L fs.toList 0 == some (P.cellsOf t)
  | some (.array n e) => L.contains e && n * P.cellsOf e == P.cellsOf t
  | _ => false

theorem flatL_cons {d : DataW Unit} {l : List (DataW Unit)} {vs : List Value} (h : flatL (d :: l) = some vs) : ∃ a b, flatV d = some a ∧ flatL l = some b ∧ vs = a ++ b := by
  simp only [flatL, Option.bind_eq_some_iff, Option.map_eq_some_iff] at h
  obtain ⟨a, h1, b, h2, h3⟩ := h
  exact ⟨a, b, h1, h2, h3.symm⟩

section
variable {P : Program} {w : World} {spare : Nat → Bool} {held : Bool} {enc : TypeId × Value → Unit}

theorem flat_read {L : List TypeId} (hL : flatSet P L = true) : ∀ (fuel : Nat) (t : TypeId) (cs : List Value) (d : DataW Unit) (ps : List MemPlace) (vs : List Value), L.contains t = true → DataW.trod enc P w 0 spare held fuel t cs = some (d, ps) → flatV d = some vs → cs = vs ∧ cs.length = P.cellsOf t
  | 0, _, _, _, _, _, _, h, _ => by simp [DataW.trod] at h
  | fuel + 1, t, cs, d, ps, vs, ht, h, hf => by
    have hT := hL
    simp only [flatSet, List.all_eq_true] at hT
    have hT := hT t (by simpa using ht)
    unfold DataW.trod at h
    split at h
    · rename_i b hu
      simp only [hu, beq_iff_eq] at hT
      cases h; cases hf; exact ⟨rfl, hT.symm⟩
    · rename_i k k' n hu
      simp only [hu, beq_iff_eq] at hT
      split at h
      · rename_i hc
        obtain ⟨rfl, _⟩ := hc
        cases h; cases hf; exact ⟨rfl, hT.symm⟩
      · cases h
    · rename_i hu; simp [hu] at hT
    · rename_i s hu
      simp only [hu, beq_iff_eq] at hT
      split at h
      · cases h; cases hf; exact ⟨rfl, hT.symm⟩
      · cases h
    · rename_i hu; simp [hu] at hT
    · rename_i hu; simp [hu] at hT
    · rename_i hu; simp [hu] at hT
    · rename_i hu; simp [hu] at hT
    · rename_i fs hu
      rename_i cs _ _
      simp only [hu, beq_iff_eq] at hT
      split at h
      · rename_i hcl
        simp only [Option.map_eq_some_iff] at h
        obtain ⟨xs, hm, e⟩ := h
        cases e
        have hf : flatL (xs.map (·.1)) = some vs := hf
        have go : ∀ (fl : List Field) (o : Nat) (ys : List (DataW Unit × List MemPlace)) (vs : List Value), tile P L fl o = some (P.cellsOf t) → (fl.mapM fun f => DataW.trod enc P w 0 spare held fuel f.type ((cs.drop f.offset).take (P.cellsOf f.type))) = some ys → flatL (ys.map (·.1)) = some vs → cs.drop o = vs := by
          intro fl
          induction fl with
          | nil =>
            intro o ys vs hti hys hfl
            simp at hys; subst hys
            cases hfl
            simp only [tile, Option.some.injEq] at hti
            rw [List.drop_eq_nil_of_le (by omega)]
          | cons f fl ih =>
            intro o ys vs hti hys hfl
            simp only [tile] at hti
            split at hti
            · rename_i hf
              obtain ⟨rfl, hf⟩ := hf
              rw [List.mapM_cons] at hys
              simp only [bind, Option.bind_eq_some_iff] at hys
              obtain ⟨y, htr, ys', hys', e⟩ := hys
              cases e
              obtain ⟨a, b, h1, h2, rfl⟩ := flatL_cons hfl
              obtain ⟨e1, _⟩ := flat_read hL fuel f.type _ _ _ a hf htr h1
              have e2 := ih _ ys' b hti hys' h2
              rw [← e1, ← e2, ← List.drop_drop, List.take_append_drop]
            · cases hti
        have := go fs.toList 0 xs vs hT hm hf
        exact ⟨by simpa using this, hcl⟩
      · cases h
    · rename_i n e hu
      rename_i cs _ _
      simp only [hu, Bool.and_eq_true, beq_iff_eq] at hT
      obtain ⟨he, hce⟩ := hT
      split at h
      · rename_i hcl
        simp only [Option.map_eq_some_iff] at h
        obtain ⟨xs, hm, e⟩ := h
        cases e
        have hf : flatL (xs.map (·.1)) = some vs := hf
        have go : ∀ (m k : Nat) (ys : List (DataW Unit × List MemPlace)) (vs : List Value), (k + m) * P.cellsOf e = P.cellsOf t → ((List.range' k m).mapM fun i => DataW.trod enc P w 0 spare held fuel e ((cs.drop (i * P.cellsOf e)).take (P.cellsOf e))) = some ys → flatL (ys.map (·.1)) = some vs → cs.drop (k * P.cellsOf e) = vs := by
          intro m
          induction m with
          | zero =>
            intro k ys vs hk hys hfl
            simp at hys; subst hys
            cases hfl
            rw [List.drop_eq_nil_of_le (by rw [hcl, ← hk]; exact Nat.le_refl _)]
          | succ m ih =>
            intro k ys vs hk hys hfl
            rw [List.range'_succ, List.mapM_cons] at hys
            simp only [bind, Option.bind_eq_some_iff] at hys
            obtain ⟨y, htr, ys', hys', e⟩ := hys
            cases e
            obtain ⟨a, b, h1, h2, rfl⟩ := flatL_cons hfl
            obtain ⟨e1, _⟩ := flat_read hL fuel _ _ _ _ a he htr h1
            have e2 := ih (k + 1) ys' b (by rw [← hk]; congr 1; omega) hys' h2
            rw [← e1, ← e2, show (k + 1) * P.cellsOf e = k * P.cellsOf e + P.cellsOf e by rw [Nat.add_mul, Nat.one_mul], ← List.drop_drop, List.take_append_drop]
        rw [List.range_eq_range'] at hm
        have := go n 0 xs vs (by rw [Nat.zero_add]; exact hce) hm hf
        exact ⟨by simpa using this, hcl⟩
      · cases h
    all_goals
      rename_i hu
      first
        | (simp [hu] at hT; done)
        | cases h

end

theorem laid_at {P : Program} {w : World} : ∀ {laid : List (String × DataW Unit)} {ps : List MemPlace}, DataW.LaidVars P w laid ps → ∀ x ∈ laid, ∃ g t cs fuel p, P.globalNamed x.1 = some g ∧ (P.globals[g]?).map (·.type) = some t ∧ w.var? P x.1 = some cs ∧ DataW.trod (fun _ => ()) P w 0 (fun _ => true) false fuel t cs.toList = some (x.2, p)
  | [], _, _, x, hx => by cases hx
  | (n, d) :: r, ps, ⟨g, t, cs, fuel, p, q, h1, h2, h3, h4, h5, _⟩, x, hx => by
    rcases List.mem_cons.1 hx with rfl | hx
    · exact ⟨g, t, cs, fuel, p, h1, h2, h3, h4⟩
    · exact laid_at h5 x hx

/- a variable of plain cells -/
theorem laid_flat {P : Program} {w : World} {laid : List (String × DataW Unit)} {L : List TypeId} {n : String} {d : DataW Unit} {vs : List Value} {g t : Nat} (h : laidMetH P laid w) (hp : (laid.all fun x => x.2.handleName?.isNone) = true) (hx : (n, d) ∈ laid)
    (hg : P.globalNamed n = some g) (ht : (P.globals[g]?).map (·.type) = some t) (hL : flatSet P L = true) (hc : L.contains t = true) (hd : flatV d = some vs) : w.var? P n = some vs.toArray := by
  rw [MakeChecks.laidMetH_plain _ _ _ hp] at h
  obtain ⟨ps, h1, _⟩ := h
  obtain ⟨g', t', cs, fuel, p, q1, q2, q3, q4⟩ := laid_at h1 (n, d) hx
  rw [hg] at q1; cases q1
  rw [ht] at q2; cases q2
  obtain ⟨e, _⟩ := flat_read hL fuel _ _ _ _ vs hc q4 hd
  rw [q3, ← e]

/- a variable that holds an error -/
theorem laid_iface {P : Program} {w : World} {laid : List (String × DataW Unit)} {n nm : String} {d : DataW Unit} {g t : Nat} (h : laidMetH P laid w) (hp : (laid.all fun x => x.2.handleName?.isNone) = true) (hx : (n, .iface nm d) ∈ laid)
    (hg : P.globalNamed n = some g) (ht : (P.globals[g]?).map (·.type) = some t) (hi : (match P.underlying t with | some (.interface _) => true | _ => false) = true) : ∃ u v, w.var? P n = some #[.iface u v] := by
  rw [MakeChecks.laidMetH_plain _ _ _ hp] at h
  obtain ⟨ps, h1, _⟩ := h
  obtain ⟨g', t', cs, fuel, p, q1, q2, q3, q4⟩ := laid_at h1 _ hx
  rw [hg] at q1; cases q1
  rw [ht] at q2; cases q2
  cases fuel with
  | zero => simp [DataW.trod] at q4
  | succ fuel =>
    unfold DataW.trod at q4
    obtain ⟨l⟩ := cs
    simp only at q4
    split at q4
    all_goals first
      | (rename_i u v hu; exact ⟨u, v, q3⟩)
      | (rename_i hu; simp [hu] at hi; done)
      | (cases q4; done)

/- what the machine knows of a variable -/
theorem var_block {P : Program} {w : World} {n : String} {g : Nat} {c : Array Value} (h : w.var? P n = some c) (hg : P.globalNamed n = some g) : ∃ t f, w.heap[g]? = some (.cells c t f) := by
  simp only [World.var?, hg, Option.bind_some] at h
  split at h
  · rename_i cs t f hh; cases h; exact ⟨t, f, hh⟩
  · cases h
theorem glob_flat {P : Program} {w : World} {K : Nat → Option Nat} {n : String} {g : Nat} {vs : List Value} (h : w.var? P n = some vs.toArray) (hg : P.globalNamed n = some g) (hs : vs.all scal = true) : GRep (G0 K w) w (.iptr (vs.map .sc)) g := by
  refine ⟨.iptr (vs := vs) ?_ ?_, ?_⟩
  · intro i v hv
    have hc := World.var?_cell hg h i
    have hv' : vs.toArray[i]? = some v := by simpa using hv
    rw [hv'] at hc
    rw [Nat.zero_add]
    exact ⟨cell_lt hc, hc⟩
  · clear h
    induction vs with
    | nil => exact .nil
    | cons v vs ih =>
      simp only [List.all_cons, Bool.and_eq_true] at hs
      exact .cons (.sc hs.1) (ih hs.2)
  · intro x cs e
    obtain ⟨t, f, hb⟩ := var_block h hg
    cases e' : vs with
    | nil => rw [e'] at e; cases e
    | cons v vs' =>
      rw [e'] at e hb
      simp only [List.map_cons, AV.iptr.injEq, List.cons.injEq] at e
      refine ⟨_, t, f, hb, ?_⟩
      rw [← e.2]; simp
theorem glob_err {P : Program} {w : World} {K : Nat → Option Nat} {n : String} {g : Nat} (h : ∃ u v, w.var? P n = some #[.iface u v]) (hg : P.globalNamed n = some g) : GRep (G0 K w) w (.iptr [.opq]) g := by
  obtain ⟨u, v, h⟩ := h
  refine ⟨.iptr (vs := [.iface u v]) ?_ (.cons .opq .nil), ?_⟩
  · intro i x hx
    have hc := World.var?_cell hg h i
    have hv' : (#[Value.iface u v] : Array Value)[i]? = some x := by simpa using hx
    rw [hv'] at hc
    rw [Nat.zero_add]
    exact ⟨cell_lt hc, hc⟩
  · intro x cs e
    obtain ⟨t, f, hb⟩ := var_block h hg
    cases e
    exact ⟨_, t, f, hb, rfl⟩

/- back: what a variable holds, out of what the machine knows -/
theorem repL_sc {G : Gh} {w : World} : ∀ {vs us : List Value}, RepL G w (vs.map .sc) us → us = vs
  | [], _, h => by cases h; rfl
  | v :: vs, _, h => by
    cases h with
    | cons h t => cases h; rw [repL_sc t]
theorem var_of_glob {P : Program} {G : Gh} {w : World} {n : String} {g : Nat} {vs : List Value} (h : GRep G w (.iptr (vs.map .sc)) g) (hg : P.globalNamed n = some g) (hv : vs ≠ []) : w.var? P n = some vs.toArray := by
  obtain ⟨h1, h2⟩ := h
  obtain ⟨v, vs', rfl⟩ : ∃ v l, vs = v :: l := by
    cases vs with
    | nil => exact absurd rfl hv
    | cons v l => exact ⟨v, l, rfl⟩
  cases h1 with
  | iptr ha hr =>
    have e := repL_sc hr
    subst e
    obtain ⟨c, t, f, hb, hs⟩ := h2 _ _ rfl
    simp only [World.var?, hg, Option.bind_some, hb]
    congr 1
    apply Array.ext_getElem?
    intro i
    by_cases hi : i < c.size
    · have hi' : i < (v :: vs').length := by simp at hs ⊢; omega
      have := (ha i (v :: vs')[i] (by simp [hi'])).2
      rw [Nat.zero_add] at this
      simp only [World.cell?, hb] at this
      have this : c[i]? = some (v :: vs')[i] := this
      rw [this]
      simp [hi']
    · rw [Array.getElem?_eq_none (by omega), Array.getElem?_eq_none (by simp at hs ⊢; omega)]

end Abs

namespace Abs
open Go
open Go.Proofs (encStr)

/- texts in rows -/
def strR (l : List ByteArray) : List (List AV) := l.map fun s => [.sc (.string s)]
def rowStr : List (List AV) → Option (List ByteArray)
  | [] => some []
  | [.sc (.string s)] :: l => (rowStr l).map (s :: ·)
  | _ => none
theorem rowStr_some : ∀ {rs : List (List AV)} {l : List ByteArray}, rowStr rs = some l → rs = strR l
  | [], l, h => by simp [rowStr] at h; subst h; rfl
  | r :: rs, l, h => by
    unfold rowStr at h
    split at h
    · rename_i h1; cases h1
    · rename_i s rs' h1
      cases h1
      obtain ⟨l', h2, rfl⟩ := Option.map_eq_some_iff.1 h
      rw [rowStr_some h2]; rfl
    · cases h
theorem rowStr_strR : ∀ {l : List ByteArray}, rowStr (strR l) = some l
  | [] => rfl
  | s :: l => by
    show (rowStr (strR l)).map _ = _
    rw [rowStr_strR]; rfl

def sortB (l : List ByteArray) : List ByteArray := ((l.map fun s => s.data.toList).mergeSort fun x y => decide (x ≤ y)).map fun x => ⟨x.toArray⟩

theorem sortB_len {l : List ByteArray} : (sortB l).length = l.length := by simp [sortB]

def sortG : List AV → AS → Option (AV × AS)
  | [.lst _ true []], S => some (.tup [], S)
  | [.arr id 1 0 n _], S =>
    match S.heap id with
    | some (.rows 1 rs) => match rowStr rs with
      | some l => if S.ro ≤ id ∧ n = rs.length ∧ 0 < n ∧ n < 4611686018427387904 then some (.tup [], S.set id (some (.rows 1 (strR (sortB l))))) else none
      | none => none
    | _ => none
  | _, _ => none

/- what the library's own proof gives -/
structure SortC (P : Program) (f : Nat) : Prop where
  none : ∀ (p : Option Addr) (cap : Nat) (w : World), Calls P f #[.slice p 0 cap] w fun e w' => e = .returned (.tuple #[]) ∧ w' = w
  some : ∀ (blk off cap : Nat) (ss : List (List UInt8)) (w : World), Sort.Holds encStr w blk off ss.toArray → blk < w.heap.size → ss.length < 4611686018427387904 →
    Calls P f #[.slice (.some ⟨blk, off, .none⟩) ss.length cap] w fun e w' => e = .returned (.tuple #[]) ∧ ∃ n os, w' = Sort.grow (Sort.putRow encStr (Sort.ahead w n) blk off (ss.mergeSort fun x y => decide (x ≤ y)).toArray) os

section
variable {A : AProg} {D : Nat → Prop} {G : Gh} {ρ : Nat → Option Nat} {σ : ASt} {a : Act} {w : World} {P : Program} {K : Nat → Option Nat}

/- new blocks alone -/
theorem Fr.more (h : Fr A D G ρ σ a w) {w' : World} (hs : w.heap.size ≤ w'.heap.size) (hw : ∀ k, k < w.heap.size → w'.heap[k]? = w.heap[k]?) (hio : Io w w') : Fr A D G ρ σ a w' ∧ Ext D G w G w' := by
  have hx : Ext D G w G w' := { ι := fun _ _ h => h, P := fun _ _ h => h, K := rfl, cell := fun b o v hp hc => by rw [cell_of_heap (hw b (h.sim.lt b o hp))]; exact hc, stay := fun b o hp => hw b (h.sim.lt b o hp), size := hs, keep := fun b hb _ => hw b hb, new := fun _ _ h => .inl h, io := hio }
  have hsim : Sim G σ.S w' := by
    refine h.sim.keep hx.toLe (fun id _ hn => (h.sim.fresh id hn).2) ?_ (fun _ _ _ _ _ _ _ _ hp => hp) fun b o hp => Nat.lt_of_lt_of_le (h.sim.lt b o hp) hs
    intro id o x e hx' h0
    obtain ⟨y, hy, ho⟩ := h.sim.obj id o e
    rw [hx'] at hy; cases hy
    exact hw _ (ho.lt h0)
  refine ⟨h.keep hx hsim ?_ h.dwr, hx⟩
  intro r cs b' e hb
  exact ⟨hw _ (h.reg_lt e hb), fun _ hp => hp, fun id o x ho hx' h0 => h.rhp r cs b' id o x e hb ho hx' h0⟩

/- a frame with nothing in it -/
theorem fr0 {S : AS} (hS : Sim G S w) (hg : Glob A G w) : Fr A (DW G S w) G (fun _ => none) ⟨[], fun _ => none, S⟩ { tmps := #[], defers := [] } w where
  defers := rfl
  size := rfl
  tmp := fun p v e => by simp at e
  reg := fun r cs e => by cases e
  rinj := fun r r' cs cs' b e => by cases e
  rhp := fun r cs b id o x e => by cases e
  sim := hS
  dwr := fun b h => .inr h
  dnew := fun b h => .inl h
  glob := hg

theorem repR_strR : ∀ {l : List ByteArray} {vs : List (List Value)}, RepR G w 1 (strR l) vs → vs = l.map fun s => [.string s]
  | [], _, .nil => rfl
  | s :: l, _, .cons h _ _ t => by
    cases h with
    | cons h1 h2 =>
      cases h2
      cases h1 with
      | sc _ => rw [repR_strR t]; rfl
theorem strR_rep : ∀ {l : List ByteArray}, RepR G w 1 (strR l) (l.map fun s => [.string s])
  | [] => .nil
  | s :: l => .cons (.cons (.sc rfl) .nil) rfl (by simp [Value.oneCell']) strR_rep
theorem flat_str {l : List ByteArray} : (l.map fun s => [Value.string s]).flatten = l.map Value.string := by
  induction l with
  | nil => rfl
  | cons s l ih => simp [ih]

theorem sort_ok {f : Nat} (hc : SortC P f) : CallOk P A K f sortG := by
  intro args S r S' G w vargs hK hg hS hr hgl
  unfold sortG at hg
  split at hg
  · rename_i z
    cases hg
    cases hr with
    | cons h1 h2 =>
      cases h2
      rename_i q
      obtain ⟨ad, c, e1⟩ : ∃ ad c, q = Value.slice ad 0 c := by
        cases h1 with
        | nil e => exact ⟨_, _, rfl⟩
        | lst hn _ _ _ _ => subst hn; exact ⟨_, _, rfl⟩
      rw [e1]
      refine ⟨(hc.none ad c w).mono ?_, Low.refl _⟩
      rintro e w' ⟨rfl, rfl⟩
      exact ⟨_, G, rfl, .tup .nil, hS, Ext.refl _ _ _, fun b h => .inr h⟩
  · rename_i id n lim
    split at hg
    · rename_i rs hh
      split at hg
      · rename_i l hl
        split at hg
        · rename_i hcond
          obtain ⟨hro, hn, hn0, hbig⟩ := hcond
          cases hg
          obtain rfl := rowStr_some hl
          refine ⟨?_, ⟨rfl, Nat.le_refl _, fun j hj => if_neg (by omega)⟩⟩
          cases hr with
          | cons h1 h2 =>
            cases h2
            obtain ⟨b, N, ad, hi, hl', hN, had, e1⟩ := h1.arr_inv
            obtain ⟨y, hy, ho⟩ := hS.obj id _ hh
            rw [hi] at hy; cases hy
            obtain ⟨_, _, hlen, hcell⟩ := ho
            have hll : (strR l).length = l.length := by simp [strR]
            rw [hll] at hn hlen
            subst hn
            have hN0 : 0 < N := by omega
            rcases hcell with h0 | ⟨c, ety, vs, hb, hcs, hrep, hflat⟩
            · simp only at h0; omega
            · have hb : w.heap[b]? = some (.cells c ety (0, 0)) := hb
              have hcs : c.size = N * 1 := hcs
              obtain rfl := repR_strR hrep
              rw [flat_str, hll, Nat.mul_one] at hflat
              have hcget : ∀ j (hj : j < l.length), c[j]? = some (.string l[j]) := by
                intro j hj
                have h3 : (c.toList.take l.length)[j]? = (l.map Value.string)[j]? := by rw [hflat]
                rw [List.getElem?_take, if_pos hj] at h3
                simpa [hj] using h3
              have hblt : b < w.heap.size := lt_of_heap hb
              have had' : ad = some ⟨b, 0, none⟩ := by
                rcases had with h | h
                · omega
                · simpa using h
              rw [e1, had']
              have hholds : Sort.Holds encStr w b 0 (l.map fun s => s.data.toList).toArray := by
                intro j hj
                have hj : j < l.length := by simpa using hj
                constructor
                · simp only [World.cell?, hb, Nat.zero_add, hcget j hj]
                  simp [hj, encStr]
                · simp [World.frozen?, hb]
              have hcall := hc.some b 0 (lim.getD N - 0) (l.map fun s => s.data.toList) w hholds hblt (by simpa using hbig)
              rw [List.length_map] at hcall
              refine hcall.mono ?_
              rintro e w' ⟨rfl, n, os, rfl⟩
              generalize hso : ((l.map fun s => s.data.toList).mergeSort fun x y => decide (x ≤ y)) = so
              have hsol : so.length = l.length := by rw [← hso]; simp
              have hsort : sortB l = so.map fun x => ⟨x.toArray⟩ := by unfold sortB; rw [hso]
              -- the world
              have hh1 : ∀ k, k ≠ b → (Sort.putRow encStr (Sort.ahead w n) b 0 so.toArray).heap[k]? = w.heap[k]? := by
                intro k hk
                show (w.heap.modify b _)[k]? = _
                rw [Array.getElem?_modify, if_neg (Ne.symm hk)]
              have hh2 : (Sort.putRow encStr (Sort.ahead w n) b 0 so.toArray).heap[b]? = some (.cells (Sort.putCells encStr 0 so.toArray c) ety (0, 0)) := by
                show (w.heap.modify b _)[b]? = _
                rw [Array.getElem?_modify, if_pos rfl, hb]; rfl
              have F0 := fr0 (A := A) hS hgl
              have hfree := F0.free_kill hro hh hi hN0
              have F1 := F0.less (hp := (S.set id none).heap) (fun j o e => by
                simp only [AS.set] at e
                split at e
                · cases e
                · exact e)
              obtain ⟨F2, X2⟩ := F1.write (w' := Sort.putRow encStr (Sort.ahead w n) b 0 so.toArray) hfree (by simp) hh1 ⟨rfl, rfl, rfl⟩
              obtain ⟨F3, X3⟩ := F2.more (w' := Sort.grow (Sort.putRow encStr (Sort.ahead w n) b 0 so.toArray) os) (by simp) (fun k hk => Sort.heap_grow_old _ os hk) ⟨rfl, rfl, rfl⟩
              have hobj : ObjRep G (Sort.grow (Sort.putRow encStr (Sort.ahead w n) b 0 so.toArray) os) (b, 1, N) (.rows 1 (strR (sortB l))) := by
                refine ⟨rfl, by omega, by simp [strR, sortB_len]; omega, .inr ⟨Sort.putCells encStr 0 so.toArray c, ety, _, ?_, ?_, strR_rep, ?_⟩⟩
                · rw [Sort.heap_grow_old _ os (by simpa using hblt)]; exact hh2
                · simp [Sort.putCells, hcs]
                · rw [flat_str, hsort]
                  apply List.ext_getElem?
                  intro j
                  rw [List.getElem?_take]
                  have : (strR (so.map fun x => (⟨x.toArray⟩ : ByteArray))).length * 1 = l.length := by simp [strR, hsol]
                  rw [this]
                  by_cases hj : j < l.length
                  · rw [if_pos hj]
                    have hjc : j < c.size := by omega
                    have hjs : j < so.length := by omega
                    simp [Sort.putCells, hjc, hjs, encStr]
                  · rw [if_neg hj, List.getElem?_eq_none (by simp; omega)]
              have F4 := F3.take (id := id) (x := (b, 1, N)) hi (by simp [AS.set]) (by
                have := (hS.fresh id)
                apply Classical.byContradiction
                intro hge
                have h5 := (hS.fresh id (by simpa [AS.set] using hge)).1
                rw [hh] at h5; cases h5) (fun _ => ⟨hfree.d, hfree.p, hfree.obj, hfree.reg⟩) hobj
              have hset : ((S.set id none).set id (some (.rows 1 (strR (sortB l))))) = S.set id (some (.rows 1 (strR (sortB l)))) := set_set' _ _ _ _
              refine ⟨_, G, rfl, .tup .nil, ?_, X2.trans X3, ?_⟩
              · have := F4.sim
                rw [← hset]; exact this
              · have := F4.dwr
                rw [← hset]; exact this
        · cases hg
      · cases hg
    · cases hg
  · cases hg


theorem sortG_low {args : List AV} {S : AS} {r : AV} {S' : AS} (h : sortG args S = some (r, S')) (hn : S.ro ≤ S.n) : Low S S' := by
  unfold sortG at h
  split at h
  · cases h; exact Low.refl _
  · split at h
    · split at h
      · split at h
        · rename_i hc
          cases h
          exact ⟨rfl, Nat.le_refl _, fun id hid => if_neg (by omega)⟩
        · cases h
      · cases h
    · cases h
  · cases h

/- the program whose one function is slices.Sort of texts -/
def A1 (glob : Nat → Option AV) : AProg := progOf [] [(190, sortG)] (fun _ => .keep) glob
theorem A1_ok {f : Nat} (hk : K 190 = some f) (he : enterable P f = true) (hc : SortC P f) : Ok P (A1 fun _ => none) K :=
  prog_ok .nil (.cons (.mk' hk he (sort_ok hc) fun _ _ _ _ h hn => sortG_low h hn) .nil) (fun _ _ h => by cases h)

end
end Abs

namespace Abs
open Go Go.RowKit

section
variable {A : AProg} {G : Gh} {w w' : World} {P : Program} {K : Nat → Option Nat} {S : AS}

/- a call that makes new blocks alone -/
theorem call_below (hS : Sim G S w) (hg : Glob A G w) (hb : Below w.heap.size w w') {r : AV} {v : Value} (hr : Rep G w' r v) : CallPost G S w r S (.returned v) w' := by
  obtain ⟨F, X⟩ := (fr0 hS hg).more hb.size hb.block ⟨hb.os, hb.tape, hb.output⟩
  exact ⟨v, G, rfl, hr, F.sim, X, fun b h => .inr h⟩

/- strconv.Itoa -/
def itoaB (n : Int) : ByteArray := ⟨(Lib.itoa n).toArray⟩
def itoaG : List AV → AS → Option (AV × AS)
  | [.sc (.int .i64 n)], S => if -9223372036854775808 ≤ n ∧ n ≤ 9223372036854775807 then some (.sc (.string (itoaB n)), S) else none
  | _, _ => none
def pow10V : List Value := Lib.pow10Tab.map fun z => Value.int .u64 z
structure ItoaC (P : Program) (f : Nat) : Prop where
  call : ∀ (n : Int), -9223372036854775808 ≤ n → n ≤ 9223372036854775807 → ∀ (w : World), Lib.TabIs P w "internal/strconv.uint64pow10" .u64 Lib.pow10Tab →
    Calls P f #[.int .i64 n] w fun e w' => e = .returned (.string ⟨(Lib.itoa n).toArray⟩) ∧ ∃ k os, w' = Sort.grow (w.drewN k) os
theorem below_grow (w : World) (k : Nat) (os : Array Obj) : Below w.heap.size w (Sort.grow (w.drewN k) os) :=
  ⟨rfl, rfl, rfl, by simp [Sort.grow, World.drewN], fun i hi => Sort.heap_grow_old _ os (by simpa [World.drewN] using hi)⟩

theorem itoa_ok {f g : Nat} (hc : ItoaC P f) (ha : A.glob 3 = some (.iptr (pow10V.map .sc))) (hk : K 10003 = some g) (hg : P.globalNamed "internal/strconv.uint64pow10" = some g) : CallOk P A K f itoaG := by
  intro args S r S' G w vargs hK hG hS hr hgl
  unfold itoaG at hG
  split at hG
  · rename_i n
    split at hG
    · rename_i hn
      cases hG
      refine ⟨?_, Low.refl _⟩
      cases hr with
      | cons h1 h2 =>
        cases h2; cases h1
        have hv := var_of_glob (hgl 3 _ ha g (by rw [hK]; exact hk)) hg (by decide +kernel)
        refine (hc.call n hn.1 hn.2 w hv).mono ?_
        rintro e w' ⟨rfl, k, os, rfl⟩
        exact call_below hS hgl (below_grow w k os) (.sc rfl)
    · cases hG
  · cases hG

/- strconv.Atoi -/
def atoiG : List AV → AS → Option (AV × AS)
  | [.sc (.string s)], S => if s.size ≤ 281474976710656 then some (match Lib.atoiAll s.data.toList with
      | .ok v => .tup [.sc (.int .i64 v), .sc .nilIface]
      | .range => .tup [.sc (.int .i64 (Lib.atoiSat s.data.toList)), .opq]
      | _ => .tup [.sc (.int .i64 0), .opq], S) else none
  | _, _ => none
structure AtoiC (P : Program) (f : Nat) : Prop where
  ok : ∀ (s : ByteArray), s.size ≤ 9223372036854775806 → ∀ v, Lib.atoiAll s.data.toList = .ok v → ∀ (w : World), Calls P f #[.string s] w fun e w' => e = .returned (.tuple #[.int .i64 v, .nilIface]) ∧ Below w.heap.size w w'
  syn : ∀ (s : ByteArray), s.size ≤ 281474976710656 → Lib.atoiAll s.data.toList = Lib.atoiAll [] → ∀ (tp : TypeId) (p : Value) (w : World), w.var? P "strconv.ErrSyntax" = some #[.iface tp p] →
    Calls P f #[.string s] w fun e w' => ∃ t v, e = .returned (.tuple #[.int .i64 0, .iface t v]) ∧ Below w.heap.size w w'
  rng : ∀ (s : ByteArray), s.size ≤ 281474976710656 → Lib.atoiAll s.data.toList = .range → ∀ (tp : TypeId) (p : Value) (w : World), w.var? P "strconv.ErrRange" = some #[.iface tp p] →
    Calls P f #[.string s] w fun e w' => ∃ t v, e = .returned (.tuple #[.int .i64 (Lib.atoiSat s.data.toList), .iface t v]) ∧ Below w.heap.size w w'
theorem below_bytes {w w' : World} {e : TypeId} (h : w' = w ∨ ∃ t, w' = Lib.bytesWorld w e t) : Below w.heap.size w w' := by
  rcases h with rfl | ⟨t, rfl⟩
  · exact Below.refl _ _
  · exact Lib.bytesWorld_below _ _ _

theorem var_of_opq {n : String} {g : Nat} (h : GRep G w (.iptr [.opq]) g) (hg : P.globalNamed n = some g) : ∃ t v, w.var? P n = some #[.iface t v] := by
  obtain ⟨h1, h2⟩ := h
  cases h1 with
  | iptr ha hr =>
    cases hr with
    | cons h t =>
      cases t
      cases h
      rename_i tt vv
      obtain ⟨c, t, f, hb, hs⟩ := h2 _ _ rfl
      refine ⟨tt, vv, ?_⟩
      simp only [World.var?, hg, Option.bind_some, hb]
      congr 1
      apply Array.ext_getElem?
      intro i
      by_cases hi : i < c.size
      · have h0 : i = 0 := by simp at hs; omega
        subst h0
        have := (ha 0 _ rfl).2
        rw [Nat.zero_add] at this
        simp only [World.cell?, hb] at this
        have this : c[0]? = _ := this
        rw [this]; rfl
      · rw [Array.getElem?_eq_none (by omega), Array.getElem?_eq_none (by simp at hs ⊢; omega)]

theorem atoi_ok {f g1 g2 : Nat} (hc : AtoiC P f) (ha1 : A.glob 1 = some (.iptr [.opq])) (hk1 : K 10001 = some g1) (hg1 : P.globalNamed "strconv.ErrRange" = some g1)
    (ha2 : A.glob 2 = some (.iptr [.opq])) (hk2 : K 10002 = some g2) (hg2 : P.globalNamed "strconv.ErrSyntax" = some g2) : CallOk P A K f atoiG := by
  intro args S r S' G w vargs hK hG hS hr hgl
  unfold atoiG at hG
  split at hG
  · rename_i s
    split at hG
    · rename_i hn
      refine ⟨?_, ?_⟩
      · cases hr with
        | cons h1 h2 =>
          cases h2; cases h1
          cases he : Lib.atoiAll s.data.toList with
          | ok v =>
            rw [he] at hG; cases hG
            refine (hc.ok s (by omega) v he w).mono ?_
            rintro e w' ⟨rfl, hb⟩
            exact call_below hS hgl hb (.tup (.cons (.sc rfl) (.cons (.sc rfl) .nil)))
          | range =>
            rw [he] at hG; cases hG
            obtain ⟨t, v, hv⟩ := var_of_opq (hgl 1 _ ha1 g1 (by rw [hK]; exact hk1)) hg1
            refine (hc.rng s hn he t v w hv).mono ?_
            rintro e w' ⟨t', v', rfl, hb⟩
            exact call_below hS hgl hb (.tup (.cons (.sc rfl) (.cons .opq .nil)))
          | _ =>
            rw [he] at hG; cases hG
            obtain ⟨t, v, hv⟩ := var_of_opq (hgl 2 _ ha2 g2 (by rw [hK]; exact hk2)) hg2
            refine (hc.syn s hn he t v w hv).mono ?_
            rintro e w' ⟨t', v', rfl, hb⟩
            exact call_below hS hgl hb (.tup (.cons (.sc rfl) (.cons .opq .nil)))
      · cases he : Lib.atoiAll s.data.toList <;> (rw [he] at hG; cases hG; exact Low.refl _)
    · cases hG
  · cases hG

/- strings.Join -/
def joinB (xs : List ByteArray) (sep : ByteArray) : ByteArray := ⟨(Lib.join (xs.map (·.data.toList)) sep.data.toList).toArray⟩
def joinG : List AV → AS → Option (AV × AS)
  | [l, .sc (.string sep)], S => (rowsOf 1 S l).bind fun rs => (rowStr rs).bind fun xs =>
    if xs.length ≤ 140737488355328 ∧ (Lib.join (xs.map (·.data.toList)) sep.data.toList).length ≤ 140737488355328 then some (.sc (.string (joinB xs sep)), S) else none
  | _, _ => none
structure JoinC (P : Program) (f : Nat) : Prop where
  none : ∀ (a : Option Addr) (c : Nat) (sep : ByteArray) (w : World), Calls P f #[.slice a 0 c, .string sep] w fun e w' => e = .returned (.string ⟨#[]⟩) ∧ w' = w
  some : ∀ (bk o c : Nat) (xs : List ByteArray) (sep : ByteArray) (w : World), (∀ (j : Nat) x, xs[j]? = some x → w.cell? ⟨bk, o + j, .none⟩ = some (.string x)) → bk < w.heap.size → xs.length ≤ 140737488355328 → xs.length ≤ c →
    (Lib.join (xs.map (·.data.toList)) sep.data.toList).length ≤ 140737488355328 →
    Calls P f #[.slice (.some ⟨bk, o, .none⟩) xs.length c, .string sep] w fun e w' => e = .returned (.string ⟨(Lib.join (xs.map (·.data.toList)) sep.data.toList).toArray⟩) ∧ Below w.heap.size w w'

theorem rows_cap {sz : Nat} {v : AV} {ad : Option Addr} {n c : Nat} (hr : Rep G w v (.slice ad n c)) {ys : List (List AV)} (hy : rowsOf sz S v = some ys) : n ≤ c := by
  unfold rowsOf at hy
  split at hy
  · cases hr with
    | nil => exact Nat.zero_le _
    | lst hn hc _ _ _ => omega
  · cases hr with
    | arr h hl hN hcap ha => omega
  · cases hy

theorem join_ok {f : Nat} (hc : JoinC P f) : CallOk P A K f joinG := by
  intro args S r S' G w vargs hK hG hS hr hgl
  unfold joinG at hG
  split at hG
  · rename_i l sep
    obtain ⟨rs, h1, hG⟩ := Option.bind_eq_some_iff.1 hG
    obtain ⟨xs, h2, hG⟩ := Option.bind_eq_some_iff.1 hG
    split at hG
    · rename_i hn
      cases hG
      refine ⟨?_, Low.refl _⟩
      obtain rfl := rowStr_some h2
      cases hr with
      | cons q1 q2 =>
        cases q2 with
        | cons q2 q3 =>
          cases q3; cases q2
          rename_i x _
          obtain ⟨ad, c, us, e1, k1, k2⟩ := rows_read (σ := ⟨[], fun _ => none, S⟩) hS q1 h1
          subst e1
          obtain rfl := repR_strR k1
          have hcap := rows_cap q1 h1
          have hlen : (strR xs).length = xs.length := by simp [strR]
          rw [hlen] at hcap ⊢
          cases xs with
          | nil =>
            refine (hc.none ad c sep w).mono ?_
            rintro e w' ⟨rfl, rfl⟩
            exact call_below hS hgl (Below.refl _ _) (.sc rfl)
          | cons y ys =>
            rcases k2 with k2 | ⟨b, off, rfl, hcell⟩
            · cases k2
            · rw [flat_str] at hcell
              have hcell' : ∀ (j : Nat) x, (y :: ys)[j]? = some x → w.cell? ⟨b, off + j, none⟩ = some (.string x) := fun j x hx => hcell j _ (by rw [List.getElem?_map, hx]; rfl)
              refine (hc.some b off c (y :: ys) sep w hcell' (cell_lt (hcell' 0 y rfl)) hn.1 hcap hn.2).mono ?_
              rintro e w' ⟨rfl, hb⟩
              exact call_below hS hgl hb (.sc rfl)
    · cases hG
  · cases hG

end

theorem itoaG_low {args : List AV} {S : AS} {r : AV} {S' : AS} (h : itoaG args S = some (r, S')) : Low S S' := by
  unfold itoaG at h
  split at h
  · split at h
    · cases h; exact Low.refl _
    · cases h
  · cases h
theorem itoaG_frm {cols : List Nat} {args : List AV} {S : AS} {r : AV} {S' : AS} (h : itoaG args S = some (r, S')) : Frm cols S S' := by
  unfold itoaG at h
  split at h
  · split at h
    · cases h; exact Frm.refl
    · cases h
  · cases h
theorem atoiG_low {args : List AV} {S : AS} {r : AV} {S' : AS} (h : atoiG args S = some (r, S')) : Low S S' := by
  unfold atoiG at h
  split at h
  · split at h
    · cases h; exact Low.refl _
    · cases h
  · cases h
theorem joinG_low {args : List AV} {S : AS} {r : AV} {S' : AS} (h : joinG args S = some (r, S')) : Low S S' := by
  unfold joinG at h
  split at h
  · obtain ⟨rs, h1, h⟩ := Option.bind_eq_some_iff.1 h
    obtain ⟨xs, h2, h⟩ := Option.bind_eq_some_iff.1 h
    split at h
    · cases h; exact Low.refl _
    · cases h
  · cases h

end Abs

namespace Abs
open Go

def cloneF (sz bytes : Nat) (zero : List AV) : AFunc := ⟨8,
  .seq (.ops [
    ⟨some 2, .pur .mov, [.k (.lst 0 true [])], none⟩]) <|
  .seq (.seq (.ops [
    ⟨some 3, .pur .mov, [.t 0], none⟩,
    ⟨some 4, .nilSl, [.t 3], none⟩]) <|
  .cond (.t 4) (.seq (.ops [
      ⟨some 2, .pur .mov, [.k (.lst 0 true [])], none⟩]) <|
    .ret) (.skip)) <|
  .seq (.ops [
    ⟨some 5, .pur (.buildSl sz 0 zero []), [], none⟩,
    ⟨some 6, .pur .mov, [.t 0], none⟩,
    ⟨some 7, .append sz bytes, [.t 5, .t 6], none⟩,
    ⟨some 2, .pur .mov, [.t 7], none⟩]) <|
  .ret, [.tmp 2]⟩

def cloneG (sz bytes : Nat) : List AV → AS → Option (AV × AS)
  | [x], S => (rowsOf sz S x).bind fun ys =>
    if ys.length * bytes ≤ 140737488355328 then some (.arr S.n sz 0 ys.length none, S.new (.rows sz ys)) else none
  | _, _ => none

theorem cloneG_inv {sz bytes : Nat} {args : List AV} {S S' : AS} {r : AV} (h : cloneG sz bytes args S = some (r, S')) : ∃ x ys, args = [x] ∧ rowsOf sz S x = some ys ∧
    ys.length * bytes ≤ 140737488355328 ∧ r = .arr S.n sz 0 ys.length none ∧ S' = S.new (.rows sz ys) := by
  unfold cloneG at h
  split at h
  · rename_i x
    obtain ⟨ys, h1, h⟩ := Option.bind_eq_some_iff.1 h
    split at h
    · rename_i hb; cases h; exact ⟨x, ys, rfl, h1, hb, rfl, rfl⟩
    · cases h
  · cases h

theorem cloneG_low {sz bytes : Nat} {args : List AV} {S : AS} {r : AV} {S' : AS} (h : cloneG sz bytes args S = some (r, S')) (hn : S.ro ≤ S.n) : Low S S' := by
  obtain ⟨_, _, _, _, _, _, rfl⟩ := cloneG_inv h
  exact ⟨rfl, Nat.le_succ _, fun id hid => if_neg (by omega)⟩

theorem cloneG_frm {sz bytes : Nat} {cols : List Nat} {args : List AV} {S : AS} {r : AV} {S' : AS} (h : cloneG sz bytes args S = some (r, S')) : Frm cols S S' := by
  obtain ⟨_, _, _, _, _, _, rfl⟩ := cloneG_inv h
  intro id o hid ho
  have e : ∀ q : AObj, (S.new q).heap id = S.heap id := fun q => if_neg (by omega)
  cases o with
  | map es => exact (e _).trans ho
  | rows z rs => exact ⟨rs, (e _).trans ho, fun r cs hc => ⟨cs, hc, rfl, fun _ _ => rfl⟩⟩

section
variable {A : AProg} {P : Program} {K : Nat → Option Nat} {G : Gh} {w : World}

theorem okNilSl_inv {o : Op} {x : Nat} (h : okOp P K o .nilSl [.t x] = true) : ∃ t t' e, o = .binOp .eql t (.tmp x) (.const (.slice none 0 0)) t' ∧ P.underlying t = some (.slice e) := by
  simp only [okOp] at h
  split at h
  · rename_i t y t'
    simp only [Bool.and_eq_true] at h
    obtain ⟨h1, h2⟩ := h
    cases y <;> simp [okArgs, okArg] at h2
    subst h2
    unfold sliceElem? at h1
    split at h1
    · rename_i e hu; exact ⟨t, t', e, rfl, hu⟩
    · cases h1
  · cases h

/- a slice in memory: is it nil, then it is empty -/
theorem objRep_le {G G' : Gh} {x : Nat × Nat × Nat} {o : AObj} (h : Le G w G' w) (ho : ObjRep G w x o) : ObjRep G' w x o := by
  cases o with
  | rows sz rs =>
    obtain ⟨h1, h2, h3, h4⟩ := ho
    refine ⟨h1, h2, h3, h4.imp id ?_⟩
    rintro ⟨c, e, vs, q1, q2, q3, q4⟩
    exact ⟨c, e, vs, q1, q2, q3.mono h, q4⟩
  | map es =>
    obtain ⟨h1, ms, cl, q1, q2, q3, q4⟩ := ho
    exact ⟨h1, ms, cl, q1, q2, q3.mono h, q4⟩

/- a name for nothing -/
def Gh.void (G : Gh) (id sz : Nat) : Gh := { G with ι := fun j => if j = id then some (0, sz, 0) else G.ι j }
theorem sim_void {S : AS} {sz : Nat} (h : Sim G S w) (hz : 0 < sz) : Sim (G.void S.n sz) (S.new (.rows sz [])) w ∧ Le G w (G.void S.n sz) w := by
  have hι : ∀ id x, G.ι id = some x → (G.void S.n sz).ι id = some x := fun id x e => by
    have hid : id ≠ S.n := by rintro rfl; rw [(h.fresh _ (Nat.le_refl _)).2] at e; cases e
    show (if id = S.n then _ else G.ι id) = _
    rw [if_neg hid]; exact e
  have hle : Le G w (G.void S.n sz) w := ⟨hι, fun _ _ h => h, rfl, fun _ _ _ _ h => h⟩
  have hobj : ∀ id o, (S.new (.rows sz [])).heap id = some o → (id = S.n ∧ o = .rows sz []) ∨ (id ≠ S.n ∧ S.heap id = some o) := fun id o e => by
    simp only [AS.new] at e
    split at e
    · rename_i hid; cases e; exact .inl ⟨hid, rfl⟩
    · rename_i hid; exact .inr ⟨hid, e⟩
  have hpos : ∀ id o x, (S.new (.rows sz [])).heap id = some o → (G.void S.n sz).ι id = some x → 0 < x.2.2 → S.heap id = some o ∧ G.ι id = some x := fun id o x e hx h0 => by
    rcases hobj id o e with ⟨rfl, rfl⟩ | ⟨hid, e⟩
    · have hx : (if S.n = S.n then some (0, sz, 0) else _) = some x := hx
      rw [if_pos rfl] at hx; cases hx; simp at h0
    · have hx : (if id = S.n then some (0, sz, 0) else G.ι id) = some x := hx
      rw [if_neg hid] at hx; exact ⟨e, hx⟩
  refine ⟨?_, hle⟩
  exact {
    obj := fun id o e => by
      rcases hobj id o e with ⟨rfl, rfl⟩ | ⟨_, e⟩
      · exact ⟨(0, sz, 0), if_pos rfl, rfl, hz, Nat.le_refl _, .inl rfl⟩
      · obtain ⟨x, hx, ho⟩ := h.obj id o e
        exact ⟨x, hι _ _ hx, objRep_le hle ho⟩
    fresh := fun id e => by
      have e : S.n + 1 ≤ id := e
      have hid : id ≠ S.n := by omega
      refine ⟨?_, ?_⟩
      · show (if id = S.n then _ else S.heap id) = _
        rw [if_neg hid]; exact (h.fresh id (by omega)).1
      · show (if id = S.n then _ else G.ι id) = _
        rw [if_neg hid]; exact (h.fresh id (by omega)).2
    inj := fun id id' o o' x x' e e' hx hx' h0 h0' => by
      obtain ⟨a1, a2⟩ := hpos _ _ _ e hx h0
      obtain ⟨b1, b2⟩ := hpos _ _ _ e' hx' h0'
      exact h.inj _ _ _ _ _ _ a1 b1 a2 b2 h0 h0'
    own := fun id o x off hr e hx h0 => by
      obtain ⟨a1, a2⟩ := hpos _ _ _ e hx h0
      exact h.own id o x off hr a1 a2 h0
    lt := h.lt
    ro := Nat.le_succ_of_le h.ro }

/- a slice in memory: is it nil, then it is empty -/
theorem rows_slice {sz : Nat} {S : AS} {x : AV} {ys : List (List AV)} {v : Value} (h : rowsOf sz S x = some ys) (hr : Rep G w x v) : ∃ a n c, v = .slice a n c ∧ (a = none → ys = []) := by
  unfold rowsOf at h
  split at h
  · rename_i z f xs
    obtain ⟨a, c, e, _, _, h3⟩ := hr.lst_inv
    refine ⟨a, _, c, e, fun ha => ?_⟩
    split at h
    · cases h
      rcases h3 with h3 | ⟨_, _, _, h3, _⟩
      · exact h3
      · rw [ha] at h3; cases h3
    · cases h
  · rename_i id z off n lim
    obtain ⟨b, N, a, _, h1, _, h3, e⟩ := hr.arr_inv
    refine ⟨a, _, _, e, fun ha => ?_⟩
    have hn : n = 0 := by
      rcases h3 with h3 | h3
      · omega
      · rw [ha] at h3; cases h3
    subst hn
    split at h
    · unfold AS.slice at h
      split at h
      · split at h
        · split at h
          · cases h; simp
          · cases h
        · cases h
      · cases h
    · cases h
  · cases h

theorem run_nilSl {ev : Operand → Value} {o : Oper} {t t' e : TypeId} {x : Operand} {a : Option Addr} {n c : Nat} (ho : o.op = .binOp .eql t x (.const (.slice none 0 0)) t') (hu : P.underlying t = some (.slice e)) (hx : ev x = .slice a n c) (hc : ev (.const (.slice none 0 0)) = .slice none 0 0) :
    (execOp ev o).run P w = .ok (.value (.bool a.isNone)) w := by
  rw [ex_binOp _ _ ho, hx, hc]
  have h1 : (eqGuard .eql t x (.const (.slice none 0 0)) (.slice a n c) (.slice none 0 0)).run P w = .ok () w := by
    unfold eqGuard; rfl
  simp only [Sem.run_bind, h1, Result.andThen_ok, Go.run_eql_slice_nil w t e a n c hu, Sem.run_pure]

theorem clone_ok (hA : Ok P A K) {f : Nat} {fn : Func} (hf : P.funcs[f]? = some fn) {sz bytes : Nat} {zero : List AV} (hz : zero.all AV.isCell = true) (hz0 : 0 < sz) (hok : okFunc P K A.mode (extB A) fn (cloneF sz bytes zero) = true) (hnd : (match fn.body with | some c => noDraw c | none => false) = true) : CallOk P A K f (cloneG sz bytes) := by
  intro args S r S' G w vargs hK hg hS hr hgl
  refine ⟨?_, cloneG_low hg hS.ro⟩
  obtain ⟨x, ys, rfl, hrows, hbg, rfl, rfl⟩ := cloneG_inv hg
  simp only [okFunc, Bool.and_eq_true, beq_iff_eq] at hok
  obtain ⟨⟨hn, hres⟩, hb⟩ := hok
  obtain ⟨code, hbody⟩ : ∃ c, fn.body = some c := by
    cases h : fn.body with
    | none => rw [h] at hb; cases hb
    | some c => exact ⟨c, rfl⟩
  rw [hbody] at hnd hb
  have hFr := start_fr (ρ := fun _ => none) (A := A) hS hgl hr (fn := fn) (af := cloneF sz bytes zero) hn
  refine calls_of_wp hf hbody ?_
  change okCode P K A.mode (extB A) code (cloneF sz bytes zero).body = true at hb
  unfold cloneF at hb
  simp only at hb
  obtain ⟨c1, c2, rfl, ok1, hb⟩ := inv_seq hb
  obtain ⟨c3, c4, rfl, ok3, ok4⟩ := inv_seq hb
  obtain ⟨c5, c6, rfl, ok5, ok6⟩ := inv_seq ok3
  obtain ⟨id5, os5, dr5, rfl, oo5, _⟩ := inv_ops ok5
  simp [noDraw] at hnd
  obtain ⟨_, ⟨rfl, _⟩, _⟩ := hnd
  obtain ⟨sz5, at5⟩ := okOps_at oo5
  have hst : (cloneF sz bytes zero).start [x] S = st 8 (ini [x]) (fun _ => none) S := start_st (show 1 ≤ 8 by omega)
  rw [hst] at hFr
  have hR := run_ok hA
  have run1 : run A (.ops [⟨some 2, .pur .mov, [.k (.lst 0 true [])], none⟩]) (st 8 (ini [x]) (fun _ => none) S) = some (.normal, st 8 (put (ini [x]) 2 (.lst 0 true [])) (fun _ => none) S) := by
    show exec A _ _ [] = _
    simp
  refine wp_seq (wp_mono (hR _ _ _ _ _ _ _ _ _ _ hK ok1 run1 hFr).1 ?_)
  rintro x1 a1 w1 ⟨rfl, G1, ρ1, hF1, hx1⟩
  show Code.wp P _ _ a1 w1
  have hK1 : G1.K = K := hx1.K.trans hK
  have hnr : x.isReg = false := by
    cases x <;> first | rfl | (simp [rowsOf] at hrows)
  refine wp_seq (wp_seq (wp_region ?_))
  rw [sz5, show List.range [(⟨some 3, .pur .mov, [.t 0], none⟩ : AIns), ⟨some 4, .nilSl, [.t 3], none⟩].length = List.range' 0 1 ++ [1] from rfl]
  have run2 : steps A (run A) [⟨some 3, .pur .mov, [.t 0], none⟩] (st 8 (put (ini [x]) 2 (.lst 0 true [])) (fun _ => none) S) = some (st 8 (put (put (ini [x]) 2 (.lst 0 true [])) 3 x) (fun _ => none) S) := by
    have : execO A [⟨some 3, .pur .mov, [.t 0], none⟩] (st 8 (put (ini [x]) 2 (.lst 0 true [])) (fun _ => none) S) [] = some (.normal, st 8 (put (put (ini [x]) 2 (.lst 0 true [])) 3 x) (fun _ => none) S) := by
      simp [put_apply]
    unfold execO at this
    rw [unw_nil, Option.map_eq_some_iff] at this
    obtain ⟨σ', h1, h2⟩ := this
    cases h2; exact h1
  refine steps_part hA hR 1 0 _ _ _ _ _ _ _ hK1 hF1 ?_ rfl run2 ?_
  · intro j hj
    obtain ⟨o, i, h1, h2, h3⟩ := at5 j (by simp; omega)
    refine ⟨o, i, by rw [Nat.zero_add]; exact h1, ?_, h3⟩
    match j, hj with
    | 0, _ => simpa using h2
  intro G3 ρ3 a3 w3 hF3 hx3
  have hK3 : G3.K = K := hx3.K.trans hK1
  obtain ⟨o4, i4, ho4, hi4, hk4⟩ := at5 1 (by simp)
  simp at hi4; subst hi4
  obtain ⟨hdst, hop, hgd⟩ := okIns_inv hk4
  obtain ⟨t, t', e, hop, hsl⟩ := okNilSl_inv hop
  have hrep : Rep G3 w3 x (a3.eval (.tmp 3)) := by
    have := hF3.tmp 3 x (by show (envL 8 _)[3]? = _; simp [envL, put_apply])
    cases x with
    | reg r c => cases hnr
    | _ => exact this
  obtain ⟨ad, n, c, hev, hnil⟩ := rows_slice hrows hrep
  refine hand_op ho4 hgd (run_nilSl hop hsl hev rfl) ?_
  have hp4 := hF3.put o4.dst (v := .b ad.isNone) (x := .bool ad.isNone) (Rep.trep (.sc rfl))
  rw [hdst] at hp4 ⊢
  have hp4 : Fr A (DW G S w) G3 ρ3 (st 8 (put (put (put (ini [x]) 2 (.lst 0 true [])) 3 x) 4 (.b ad.isNone)) (fun _ => none) S) _ _ := st_put (d := some 4) ▸ hp4
  show Code.wp P c6 _ _ _
  have hro := hS.ro
  cases had : ad.isNone with
  | true =>
    rw [had] at hp4
    have hys := hnil (by simpa using had)
    subst hys
    have run6 : run A (.cond (.t 4) (.seq (.ops [⟨some 2, .pur .mov, [.k (.lst 0 true [])], none⟩]) <| .ret) (.skip)) (st 8 (put (put (put (ini [x]) 2 (.lst 0 true [])) 3 x) 4 (.b true)) (fun _ => none) S) = some (.ret, st 8 (put (put (put (put (ini [x]) 2 (.lst 0 true [])) 3 x) 4 (.b true)) 2 (.lst 0 true [])) (fun _ => none) S) := by
      show exec A _ _ [] = _
      simp [put_apply]
    refine wp_mono (hR _ _ _ _ _ _ _ _ _ _ hK3 ok6 run6 hp4).1 ?_
    rintro x6 a6 w6 ⟨rfl, G6, ρ6, hF6, hx6⟩
    obtain ⟨_, v, hv, hrepv⟩ := done_sim (af := cloneF sz bytes zero) hF6 hres (r := .lst 0 true []) (S' := S) (by
      rw [done_st]
      show doneC (retRs [.tmp 2] _ _ _ _) _ = _
      simp [retRs, retR, put_apply])
    obtain ⟨s1, s2⟩ := sim_void hF6.sim hz0
    have hrep0 : Rep (G6.void S.n sz) w6 (.arr S.n sz 0 0 none) v := by
      obtain ⟨a, c, e, _, hc, _⟩ := hrepv.lst_inv
      have hc := hc rfl
      subst hc; subst e
      exact .arr (b := 0) (N := 0) (if_pos rfl) (by simp) (by simp) (by simp) (.inl rfl)
    refine ⟨hF6.defers, v, hv, v, _, rfl, hrep0, s1, ((hx1.trans hx3).trans hx6).trans ?_, fun b h => ?_⟩
    · exact { s2 with size := Nat.le_refl _, keep := fun _ _ _ => rfl, new := fun _ _ h => .inl h, stay := fun _ _ _ => rfl, io := Io.refl _ }
    · obtain ⟨id, o, x', hr', e, hx', h0, rfl⟩ := h
      rcases (show (id = S.n ∧ o = AObj.rows sz []) ∨ (id ≠ S.n ∧ S.heap id = some o) from by
        simp only [AS.new] at e
        split at e
        · rename_i hid; cases e; exact .inl ⟨hid, rfl⟩
        · rename_i hid; exact .inr ⟨hid, e⟩) with ⟨rfl, rfl⟩ | ⟨hid, e⟩
      · have hx' : (if S.n = S.n then some (0, sz, 0) else _) = some x' := hx'
        rw [if_pos rfl] at hx'; cases hx'; simp at h0
      · have hx' : (if id = S.n then some (0, sz, 0) else G6.ι id) = some x' := hx'
        rw [if_neg hid] at hx'
        exact hF6.dwr _ ⟨id, o, x', hr', e, hx', h0, rfl⟩
  | false =>
    rw [had] at hp4
    have run6 : run A (.cond (.t 4) (.seq (.ops [⟨some 2, .pur .mov, [.k (.lst 0 true [])], none⟩]) <| .ret) (.skip)) (st 8 (put (put (put (ini [x]) 2 (.lst 0 true [])) 3 x) 4 (.b false)) (fun _ => none) S) = some (.normal, st 8 (put (put (put (ini [x]) 2 (.lst 0 true [])) 3 x) 4 (.b false)) (fun _ => none) S) := by
      show exec A _ _ [] = _
      simp [put_apply]
    refine wp_mono (hR _ _ _ _ _ _ _ _ _ _ hK3 ok6 run6 hp4).1 ?_
    rintro x6 a6 w6 ⟨rfl, G6, ρ6, hF6, hx6⟩
    show Code.wp P c4 _ a6 w6
    have hK6 : G6.K = K := hx6.K.trans hK3
    have hz' := hz
    have run7 : ∃ e7, e7 2 = .arr S.n sz 0 ys.length none ∧ run A (.seq (.ops [
        ⟨some 5, .pur (.buildSl sz 0 zero []), [], none⟩,
        ⟨some 6, .pur .mov, [.t 0], none⟩,
        ⟨some 7, .append sz bytes, [.t 5, .t 6], none⟩,
        ⟨some 2, .pur .mov, [.t 7], none⟩]) <| .ret) (st 8 (put (put (put (ini [x]) 2 (.lst 0 true [])) 3 x) 4 (.b false)) (fun _ => none) S) = some (.ret, st 8 e7 (fun _ => none) (S.new (.rows sz ys))) := by
      refine ⟨put (put (put (put (put (put (put (ini [x]) 2 (.lst 0 true [])) 3 x) 4 (.b false)) 5 (.lst sz true [])) 6 x) 7 (.arr S.n sz 0 ys.length none)) 2 (.arr S.n sz 0 ys.length none), by simp [put_apply], ?_⟩
      have ha : ∀ d rg, opev (.append sz bytes) d rg S [.lst sz true [], x] = some (.arr S.n sz 0 ys.length none, none, S.new (.rows sz ys)) := by
        intro d rg
        cases ys with
        | nil => simp [opev, hrows, appendA]
        | cons y ys => simpa [opev, hrows, appendA] using hbg
      show exec A _ _ [] = _
      simp [put_apply, hz, fillR, ha]
    obtain ⟨e7, he7, run7⟩ := run7
    refine wp_mono (hR _ _ _ _ _ _ _ _ _ _ hK6 ok4 run7 hF6).1 ?_
    rintro x8 a8 w8 ⟨rfl, G8, ρ8, hF8, hx8⟩
    obtain ⟨_, v, hv, hrepv⟩ := done_sim (af := cloneF sz bytes zero) hF8 hres (r := .arr S.n sz 0 ys.length none) (S' := S.new (.rows sz ys)) (by
      rw [done_st]
      show doneC (retRs [.tmp 2] _ _ _ _) _ = _
      simp [retRs, retR, he7])
    exact ⟨hF8.defers, v, hv, v, G8, rfl, hrepv, hF8.sim, (((hx1.trans hx3).trans hx6).trans hx8), hF8.dwr⟩

theorem clone_ext {A : AProg} {f : Nat} {fn : Func} (hf : P.funcs[f]? = some fn) {sz bytes : Nat} {zero : List AV} (hz : zero.all AV.isCell = true) (hz0 : 0 < sz) (hok : okFunc P K (fun _ => .keep) (fun _ => false) fn (cloneF sz bytes zero) = true) (hnd : (match fn.body with | some c => noDraw c | none => false) = true) : CallOk P A K f (cloneG sz bytes) := by
  intro args S r S' G w vargs hK hg hS hr hgl
  exact clone_ok (A := A0 fun _ => none) A0_ok hf hz hz0 hok hnd args S r S' G w vargs hK hg hS hr (fun _ _ h => by cases h)

end
end Abs

namespace Abs
open Go

/- texts in rows -/
def intR (l : List Int) : List (List AV) := l.map fun s => [.sc (.int .i64 s)]
def rowInt : List (List AV) → Option (List Int)
  | [] => some []
  | [.sc (.int .i64 s)] :: l => (rowInt l).map (s :: ·)
  | _ => none
theorem rowInt_some : ∀ {rs : List (List AV)} {l : List Int}, rowInt rs = some l → rs = intR l
  | [], l, h => by simp [rowInt] at h; subst h; rfl
  | r :: rs, l, h => by
    unfold rowInt at h
    split at h
    · rename_i h1; cases h1
    · rename_i s rs' h1
      cases h1
      obtain ⟨l', h2, rfl⟩ := Option.map_eq_some_iff.1 h
      rw [rowInt_some h2]; rfl
    · cases h
theorem rowInt_intR : ∀ {l : List Int}, rowInt (intR l) = some l
  | [] => rfl
  | s :: l => by
    show (rowInt (intR l)).map _ = _
    rw [rowInt_intR]; rfl

def sortI (l : List Int) : List Int := l.mergeSort fun x y => decide (x ≤ y)

theorem sortI_len {l : List Int} : (sortI l).length = l.length := by simp [sortI]

def sortIG : List AV → AS → Option (AV × AS)
  | [.lst _ true []], S => some (.tup [], S)
  | [.arr id 1 0 n _], S =>
    match S.heap id with
    | some (.rows 1 rs) => match rowInt rs with
      | some l => if S.ro ≤ id ∧ n = rs.length ∧ 0 < n ∧ n < 4611686018427387904 then some (.tup [], S.set id (some (.rows 1 (intR (sortI l))))) else none
      | none => none
    | _ => none
  | _, _ => none

/- what the library's own proof gives -/
structure SortCI (P : Program) (f : Nat) : Prop where
  none : ∀ (p : Option Addr) (cap : Nat) (w : World), Calls P f #[.slice p 0 cap] w fun e w' => e = .returned (.tuple #[]) ∧ w' = w
  some : ∀ (blk off cap : Nat) (ss : List Int) (w : World), Sort.Holds (Value.int .i64) w blk off ss.toArray → blk < w.heap.size → ss.length < 4611686018427387904 →
    Calls P f #[.slice (.some ⟨blk, off, .none⟩) ss.length cap] w fun e w' => e = .returned (.tuple #[]) ∧ ∃ n os, w' = Sort.grow (Sort.putRow (Value.int .i64) (Sort.ahead w n) blk off (ss.mergeSort fun x y => decide (x ≤ y)).toArray) os

section
variable {A : AProg} {D : Nat → Prop} {G : Gh} {ρ : Nat → Option Nat} {σ : ASt} {a : Act} {w : World} {P : Program} {K : Nat → Option Nat}

theorem repR_intR : ∀ {l : List Int} {vs : List (List Value)}, RepR G w 1 (intR l) vs → vs = l.map fun s => [.int .i64 s]
  | [], _, .nil => rfl
  | s :: l, _, .cons h _ _ t => by
    cases h with
    | cons h1 h2 =>
      cases h2
      cases h1 with
      | sc _ => rw [repR_intR t]; rfl
theorem intR_rep : ∀ {l : List Int}, RepR G w 1 (intR l) (l.map fun s => [.int .i64 s])
  | [] => .nil
  | s :: l => .cons (.cons (.sc rfl) .nil) rfl (by simp [Value.oneCell']) intR_rep
theorem flat_int {l : List Int} : (l.map fun s => [(Value.int .i64) s]).flatten = l.map (Value.int .i64) := by
  induction l with
  | nil => rfl
  | cons s l ih => simp [ih]

theorem sortI_ok {f : Nat} (hc : SortCI P f) : CallOk P A K f sortIG := by
  intro args S r S' G w vargs hK hg hS hr hgl
  unfold sortIG at hg
  split at hg
  · rename_i z
    cases hg
    cases hr with
    | cons h1 h2 =>
      cases h2
      rename_i q
      obtain ⟨ad, c, e1⟩ : ∃ ad c, q = Value.slice ad 0 c := by
        cases h1 with
        | nil e => exact ⟨_, _, rfl⟩
        | lst hn _ _ _ _ => subst hn; exact ⟨_, _, rfl⟩
      rw [e1]
      refine ⟨(hc.none ad c w).mono ?_, Low.refl _⟩
      rintro e w' ⟨rfl, rfl⟩
      exact ⟨_, G, rfl, .tup .nil, hS, Ext.refl _ _ _, fun b h => .inr h⟩
  · rename_i id n lim
    split at hg
    · rename_i rs hh
      split at hg
      · rename_i l hl
        split at hg
        · rename_i hcond
          obtain ⟨hro, hn, hn0, hbig⟩ := hcond
          cases hg
          obtain rfl := rowInt_some hl
          refine ⟨?_, ⟨rfl, Nat.le_refl _, fun j hj => if_neg (by omega)⟩⟩
          cases hr with
          | cons h1 h2 =>
            cases h2
            obtain ⟨b, N, ad, hi, hl', hN, had, e1⟩ := h1.arr_inv
            obtain ⟨y, hy, ho⟩ := hS.obj id _ hh
            rw [hi] at hy; cases hy
            obtain ⟨_, _, hlen, hcell⟩ := ho
            have hll : (intR l).length = l.length := by simp [intR]
            rw [hll] at hn hlen
            subst hn
            have hN0 : 0 < N := by omega
            rcases hcell with h0 | ⟨c, ety, vs, hb, hcs, hrep, hflat⟩
            · simp only at h0; omega
            · have hb : w.heap[b]? = some (.cells c ety (0, 0)) := hb
              have hcs : c.size = N * 1 := hcs
              obtain rfl := repR_intR hrep
              rw [flat_int, hll, Nat.mul_one] at hflat
              have hcget : ∀ j (hj : j < l.length), c[j]? = some (.int .i64 l[j]) := by
                intro j hj
                have h3 : (c.toList.take l.length)[j]? = (l.map (Value.int .i64))[j]? := by rw [hflat]
                rw [List.getElem?_take, if_pos hj] at h3
                simpa [hj] using h3
              have hblt : b < w.heap.size := lt_of_heap hb
              have had' : ad = some ⟨b, 0, none⟩ := by
                rcases had with h | h
                · omega
                · simpa using h
              rw [e1, had']
              have hholds : Sort.Holds (Value.int .i64) w b 0 l.toArray := by
                intro j hj
                have hj : j < l.length := by simpa using hj
                constructor
                · simp only [World.cell?, hb, Nat.zero_add, hcget j hj]
                  simp [hj]
                · simp [World.frozen?, hb]
              have hcall := hc.some b 0 (lim.getD N - 0) l w hholds hblt (by simpa using hbig)
              refine hcall.mono ?_
              rintro e w' ⟨rfl, n, os, rfl⟩
              generalize hso : (l.mergeSort fun x y => decide (x ≤ y)) = so
              have hsol : so.length = l.length := by rw [← hso]; simp
              have hsort : sortI l = so := by unfold sortI; rw [hso]
              -- the world
              have hh1 : ∀ k, k ≠ b → (Sort.putRow (Value.int .i64) (Sort.ahead w n) b 0 so.toArray).heap[k]? = w.heap[k]? := by
                intro k hk
                show (w.heap.modify b _)[k]? = _
                rw [Array.getElem?_modify, if_neg (Ne.symm hk)]
              have hh2 : (Sort.putRow (Value.int .i64) (Sort.ahead w n) b 0 so.toArray).heap[b]? = some (.cells (Sort.putCells (Value.int .i64) 0 so.toArray c) ety (0, 0)) := by
                show (w.heap.modify b _)[b]? = _
                rw [Array.getElem?_modify, if_pos rfl, hb]; rfl
              have F0 := fr0 (A := A) hS hgl
              have hfree := F0.free_kill hro hh hi hN0
              have F1 := F0.less (hp := (S.set id none).heap) (fun j o e => by
                simp only [AS.set] at e
                split at e
                · cases e
                · exact e)
              obtain ⟨F2, X2⟩ := F1.write (w' := Sort.putRow (Value.int .i64) (Sort.ahead w n) b 0 so.toArray) hfree (by simp) hh1 ⟨rfl, rfl, rfl⟩
              obtain ⟨F3, X3⟩ := F2.more (w' := Sort.grow (Sort.putRow (Value.int .i64) (Sort.ahead w n) b 0 so.toArray) os) (by simp) (fun k hk => Sort.heap_grow_old _ os hk) ⟨rfl, rfl, rfl⟩
              have hobj : ObjRep G (Sort.grow (Sort.putRow (Value.int .i64) (Sort.ahead w n) b 0 so.toArray) os) (b, 1, N) (.rows 1 (intR (sortI l))) := by
                refine ⟨rfl, by omega, by simp [intR, sortI_len]; omega, .inr ⟨Sort.putCells (Value.int .i64) 0 so.toArray c, ety, _, ?_, ?_, intR_rep, ?_⟩⟩
                · rw [Sort.heap_grow_old _ os (by simpa using hblt)]; exact hh2
                · simp [Sort.putCells, hcs]
                · rw [flat_int, hsort]
                  apply List.ext_getElem?
                  intro j
                  rw [List.getElem?_take]
                  have : (intR so).length * 1 = l.length := by simp [intR, hsol]
                  rw [this]
                  by_cases hj : j < l.length
                  · rw [if_pos hj]
                    have hjc : j < c.size := by omega
                    have hjs : j < so.length := by omega
                    simp [Sort.putCells, hjc, hjs]
                  · rw [if_neg hj, List.getElem?_eq_none (by simp; omega)]
              have F4 := F3.take (id := id) (x := (b, 1, N)) hi (by simp [AS.set]) (by
                have := (hS.fresh id)
                apply Classical.byContradiction
                intro hge
                have h5 := (hS.fresh id (by simpa [AS.set] using hge)).1
                rw [hh] at h5; cases h5) (fun _ => ⟨hfree.d, hfree.p, hfree.obj, hfree.reg⟩) hobj
              have hset : ((S.set id none).set id (some (.rows 1 (intR (sortI l))))) = S.set id (some (.rows 1 (intR (sortI l)))) := set_set' _ _ _ _
              refine ⟨_, G, rfl, .tup .nil, ?_, X2.trans X3, ?_⟩
              · have := F4.sim
                rw [← hset]; exact this
              · have := F4.dwr
                rw [← hset]; exact this
        · cases hg
      · cases hg
    · cases hg
  · cases hg


theorem sortIG_low {args : List AV} {S : AS} {r : AV} {S' : AS} (h : sortIG args S = some (r, S')) (hn : S.ro ≤ S.n) : Low S S' := by
  unfold sortIG at h
  split at h
  · cases h; exact Low.refl _
  · split at h
    · split at h
      · split at h
        · rename_i hc
          cases h
          exact ⟨rfl, Nat.le_refl _, fun id hid => if_neg (by omega)⟩
        · cases h
      · cases h
    · cases h
  · cases h

end
end Abs
