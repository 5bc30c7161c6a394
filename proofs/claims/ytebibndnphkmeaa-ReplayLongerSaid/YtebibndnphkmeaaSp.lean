/- The replay cache: what its functions do. -/
import Derived.Test.YtebibndnphkmeaaE3
import Derived.Test.YtebibndnphkmeaaE4
namespace Abs
open Go

/- entries -/
def esC (l : List (ByteArray × Int)) : List (Value × AV) := l.map fun p => (.string p.1, .sc (.int .i64 p.2))

def lookC (id : ByteArray) : List (ByteArray × Int) → Option Int
  | [] => none
  | p :: l => if p.1 = id then some p.2 else lookC id l

def setC (id : ByteArray) (v : Int) : List (ByteArray × Int) → List (ByteArray × Int)
  | [] => [(id, v)]
  | p :: l => if p.1 = id then (id, v) :: l else p :: setC id v l

def liveC (now : Int) (l : List (ByteArray × Int)) : List (ByteArray × Int) := l.filter fun p => decide (now < p.2)

def seenC (room : Int) (l : List (ByteArray × Int)) (id : ByteArray) (until_ now : Int) : Int × List (ByteArray × Int) :=
  if until_ ≤ now then (5, l) else
  match lookC id (liveC now l) with
  | some old => (9, setC id (max old until_) (liveC now l))
  | none => if room ≤ (liveC now l).length then (10, liveC now l) else (0, setC id until_ (liveC now l))

/- the heap behind it -/
def setM (S : AS) (mid : Nat) (l : List (ByteArray × Int)) (k : Nat) : AS := { S.set mid (some (.map (esC l))) with n := S.n + k }

structure IsCache (S : AS) (cid mid : Nat) (room : Int) (l : List (ByteArray × Int)) : Prop where
  c : S.heap cid = some (.rows 2 [[.sc (.int .i64 room), .mp mid]])
  m : S.heap mid = some (.map (esC l))
  ro : S.ro ≤ mid
  ltc : cid < S.n
  ltm : mid < S.n

theorem IsCache.ne {S : AS} {cid mid : Nat} {room : Int} {l : List (ByteArray × Int)} (h : IsCache S cid mid room l) : cid ≠ mid := by
  rintro rfl
  have := h.c; rw [h.m] at this; cases this

theorem IsCache.setM {S : AS} {cid mid : Nat} {room : Int} {l : List (ByteArray × Int)} (h : IsCache S cid mid room l) (l' : List (ByteArray × Int)) (k : Nat) : IsCache (setM S mid l' k) cid mid room l' where
  c := by show (if cid = mid then _ else _) = _; rw [if_neg h.ne]; exact h.c
  m := by show (if mid = mid then _ else _) = _; rw [if_pos rfl]
  ro := h.ro
  ltc := Nat.lt_of_lt_of_le h.ltc (Nat.le_add_right _ _)
  ltm := Nat.lt_of_lt_of_le h.ltm (Nat.le_add_right _ _)

theorem setM_setM {S : AS} {mid : Nat} {l l' : List (ByteArray × Int)} {k k' : Nat} : setM (setM S mid l k) mid l' k' = setM S mid l' (k + k') := by
  unfold setM AS.set
  simp only [AS.mk.injEq, and_true]
  refine ⟨?_, by omega⟩
  funext j
  split <;> rfl

theorem findK_esC {id : ByteArray} : ∀ {l : List (ByteArray × Int)} {i : Nat}, ∃ r, findK (.string id) (esC l) i = some r ∧ (r.map fun x => x.2) = (lookC id l).map (fun n => .sc (.int .i64 n)) ∧
    ∀ v, (match r with | some (j, _) => i ≤ j ∧ ∀ pre : List (Value × AV), pre.length = i → (pre ++ esC l).set j (.string id, .sc (.int .i64 v)) = pre ++ esC (setC id v l) | none => esC l ++ [(.string id, .sc (.int .i64 v))] = esC (setC id v l))
  | [], i => ⟨none, rfl, rfl, fun v => rfl⟩
  | p :: l, i => by
    obtain ⟨k, n⟩ := p
    by_cases h : k = id
    · subst h
      refine ⟨some (i, .sc (.int .i64 n)), ?_, ?_, fun v => ⟨Nat.le_refl _, fun pre hp => ?_⟩⟩
      · show findK (.string k) ((.string k, .sc (.int .i64 n)) :: esC l) i = _
        have : sameKey (.string k) (.string k) = some true := by simp only [sameKey, ba_beq.2 rfl]
        rw [findK, this]
      · simp [lookC]
      · subst hp
        simp [esC, setC]
    · obtain ⟨r, h1, h2, h3⟩ := @findK_esC id l (i + 1)
      refine ⟨r, ?_, ?_, fun v => ?_⟩
      · show findK (.string id) ((.string k, .sc (.int .i64 n)) :: esC l) i = _
        have : sameKey (.string id) (.string k) = some false := by
          simp only [sameKey]
          cases hb : (id == k) with
          | false => rfl
          | true => exact absurd (ba_beq.1 hb).symm h
        rw [findK, this]; exact h1
      · rw [h2]; simp [lookC, h]
      · have := h3 v
        cases r with
        | none =>
          simp only at this ⊢
          simp only [setC, h, if_false]
          show (_ :: esC l) ++ _ = _ :: _
          rw [List.cons_append, this]; rfl
        | some r =>
          obtain ⟨j, x⟩ := r
          simp only at this ⊢
          refine ⟨by omega, fun pre hp => ?_⟩
          have h4 := this.2 (pre ++ [(.string k, .sc (.int .i64 n))]) (by simp [hp])
          simp only [setC, h, if_false]
          simp only [List.append_assoc, List.singleton_append] at h4
          exact h4

section
variable {S : AS} {cid mid : Nat} {room : Int} {l : List (ByteArray × Int)} {d : Option Nat} {rg : Nat → Option (List AV)}

theorem opev_ldc (h : IsCache S cid mid room l) : opev (.ld none 1 false) d rg S [.ptr cid 0 1] = some (.mp mid, none, S) := by
  rw [opev_ld_ptr h.c]; simp
theorem opev_ldr (h : IsCache S cid mid room l) : opev (.ld none 1 false) d rg S [.ptr cid 0 0] = some (.sc (.int .i64 room), none, S) := by
  rw [opev_ld_ptr h.c]; simp
theorem opev_lenC (h : IsCache S cid mid room l) : opev .lenM d rg S [.mp mid] = some (.sc (.int .i64 l.length), none, S) := by
  rw [opev_lenM h.m]; simp [esC]
theorem opev_lookC (h : IsCache S cid mid room l) {id : ByteArray} : opev (.lookup true (.sc (.int .i64 0)) true) d rg S [.mp mid, .sc (.string id)] = some (.tup [.sc (.int .i64 ((lookC id l).getD 0)), .sc (.bool (lookC id l).isSome)], none, S) := by
  obtain ⟨r, h1, h2, _⟩ := @findK_esC id l 0
  simp only [opev, isStr, h.m, Option.bind_some, h1, Option.map_some]
  cases r with
  | none => cases hl : lookC id l with
    | none => simp [lookVal]
    | some n => rw [hl] at h2; cases h2
  | some r => cases hl : lookC id l with
    | none => rw [hl] at h2; cases h2
    | some n => rw [hl] at h2; simp at h2; simp [lookVal, h2]
theorem opev_setC (h : IsCache S cid mid room l) {id : ByteArray} {n : Int} : opev (.mapset true) d rg S [.mp mid, .sc (.string id), .sc (.int .i64 n)] = some (.junk, none, setM S mid (setC id n l) 0) := by
  obtain ⟨r, h1, _, h3⟩ := @findK_esC id l 0
  have h3 := h3 n
  simp only [opev, isStr, isReg_sc, h.m, h.ro, h1, Option.map_some, and_self, if_true]
  cases r with
  | none =>
    simp only at h3 ⊢
    rw [h3]; rfl
  | some r =>
    obtain ⟨j, x⟩ := r
    simp only at h3 ⊢
    have := h3.2 [] rfl
    simp only [List.nil_append] at this
    rw [this]; rfl

theorem pruneG_C (h : IsCache S cid mid room l) {now : Int} : pruneG [.ptr cid 0 0, .sc (.int .i64 now)] S = some (.sc (.int .i64 (IntKind.i64.wrap (l.length - (liveC now l).length))), setM S mid (liveC now l) 1) := by
  have hg : (esC l).all goodE = true := by
    rw [List.all_eq_true]
    intro e he
    obtain ⟨p, _, rfl⟩ := List.mem_map.1 he
    rfl
  have hf : (esC l).filter (liveE now) = esC (liveC now l) := by
    unfold esC liveC
    rw [List.filter_map]
    rfl
  simp only [pruneG, h.c, List.getElem?_cons_zero, h.m, h.ro, hg, and_self, if_true, hf]
  simp [esC, setM]
end

def out51 : ACode := .seq .skip (.seq (.ops [⟨some 52, .pur .mov, [.t 9], none⟩, ⟨some 8, .pur .mov, [.t 52], none⟩]) .ret)
theorem afind51 : afind f51_l0 0 = some out51 := rfl

def newR (S : AS) (room : Int) : AS := (S.new (.map [])).new (.rows 2 [[.sc (.int .i64 (max room 0)), .mp S.n]])

theorem newR_C {S : AS} {room : Int} (hn : S.ro ≤ S.n) : IsCache (newR S room) (S.n + 1) S.n (max room 0) [] where
  c := by simp [newR, AS.new]
  m := by simp [newR, AS.new, esC]
  ro := hn
  ltc := by simp [newR, AS.new]
  ltm := by simp [newR, AS.new]; omega

/- the functions -/
structure HasR (A : AProg) : Prop where
  n50 : A.ext 50 = none ∧ A.funcs 50 = some f50 ∧ A.mode 50 = .keep
  n51 : A.ext 51 = none ∧ A.funcs 51 = some f51 ∧ A.mode 51 = .keep
  n52 : A.ext 52 = none ∧ A.funcs 52 = some f52 ∧ A.mode 52 = .keep
  n53 : A.ext 53 = some pruneG

section
variable {A : AProg} (hA : HasR A) {S : AS} {cid mid : Nat} {room : Int} {l : List (ByteArray × Int)}
include hA

theorem prune_spec (h : IsCache S cid mid room l) {now : Int} : docall A (run A) 53 [.ptr cid 0 0, .sc (.int .i64 now)] S = some (.sc (.int .i64 (IntKind.i64.wrap (l.length - (liveC now l).length))), setM S mid (liveC now l) 1) := by
  rw [docall_ext hA.n53 rfl, pruneG_C h]

theorem len_spec (h : IsCache S cid mid room l) : docall A (run A) 52 [.ptr cid 0 0] S = some (.sc (.int .i64 l.length), S) := by
  rw [docall_keep hA.n52.1 hA.n52.2.1 hA.n52.2.2 rfl (by show 1 ≤ 8; omega)]
  simp [f52, f52b, put_apply, opev_ldc h, opev_lenC h, retRs, retR]

theorem new_spec {room : Int} : docall A (run A) 50 [.sc (.int .i64 room)] S = some (.ptr (S.n + 1) 0 0, newR S room) := by
  rw [docall_keep hA.n50.1 hA.n50.2.1 hA.n50.2.2 rfl (by show 1 ≤ 8; omega)]
  simp [f50, f50b, put_apply, retRs, retR, opev, fillA, newR, AS.new]
  rfl

theorem seen_spec (h : IsCache S cid mid room l) {id : ByteArray} {t now : Int} :
    docall A (run A) 51 [.ptr cid 0 0, .sc (.string id), .sc (.int .i64 t), .sc (.int .i64 now)] S =
      some (.sc (.int .i64 (seenC room l id t now).1), if t ≤ now then S else setM S mid (seenC room l id t now).2 1) := by
  rw [docall_keep hA.n51.1 hA.n51.2.1 hA.n51.2.2 rfl (by show 4 ≤ 53; omega)]
  have hp := h.setM (liveC now l) 1
  have key : ∀ b, afind b 0 = some out51 → fin f51.res (exec A (.seq (.ops [⟨some 8, .pur .mov, [.k (.i (0))], none⟩]) (.scope b f51_l0)) (st 53 (ini [.ptr cid 0 0, .sc (.string id), .sc (.int .i64 t), .sc (.int .i64 now)]) (fun _ => none) S) []) =
      some (.sc (.int .i64 (seenC room l id t now).1), if t ≤ now then S else setM S mid (seenC room l id t now).2 1) := by
    intro b hb
    by_cases h1 : t ≤ now
    · simp [f51, f51_l0, put_apply, seenC, h1, retRs, retR, unw_scope_goto hb, out51]
    · cases h2 : lookC id (liveC now l) with
      | some old =>
        simp [f51, f51_l0, put_apply, seenC, h1, h2, retRs, retR, unw_scope_goto hb, out51, prune_spec hA h, opev_ldc hp, opev_lookC hp, opev_setC hp, setM_setM]
      | none =>
        by_cases h3 : room ≤ (liveC now l).length
        · simp [f51, f51_l0, put_apply, seenC, h1, h2, h3, retRs, retR, unw_scope_goto hb, out51, prune_spec hA h, opev_ldc hp, opev_lookC hp, opev_setC hp, opev_lenC hp, opev_ldr hp, setM_setM]
        · simp [f51, f51_l0, put_apply, seenC, h1, h2, h3, retRs, retR, unw_scope_goto hb, out51, prune_spec hA h, opev_ldc hp, opev_lookC hp, opev_setC hp, opev_lenC hp, opev_ldr hp, setM_setM]
  exact key f51_l0 afind51

end
end Abs

namespace Abs
open Go

structure HasR0 (A : AProg) : Prop extends HasR A where
  n49 : A.ext 49 = none ∧ A.funcs 49 = some f49 ∧ A.mode 49 = .keep

section
variable {A : AProg}

theorem shown_spec (hA : HasR0 A) {S : AS} (hn : S.ro ≤ S.n) : ∃ S', docall A (run A) 49 [] S = some (.sc (.bool true), S') ∧ S'.ro = S.ro ∧ S.n ≤ S'.n := by
  have h0 : IsCache (newR S 1) (S.n + 1) S.n 1 [] := newR_C (room := 1) hn
  have h1 := h0.setM [(⟨#[97]⟩, 10)] 1
  have h2 := h0.setM [(⟨#[97]⟩, 10)] 2
  have h3 := h0.setM [(⟨#[97]⟩, 10)] 3
  have h4 := h0.setM [(⟨#[98]⟩, 20)] 4
  have e1 : seenC 1 [] ⟨#[97]⟩ 10 1 = (0, [(⟨#[97]⟩, 10)]) := by decide
  have e2 : seenC 1 [(⟨#[97]⟩, 10)] ⟨#[97]⟩ 10 1 = (9, [(⟨#[97]⟩, 10)]) := by decide
  have e3 : seenC 1 [(⟨#[97]⟩, 10)] ⟨#[98]⟩ 10 1 = (10, [(⟨#[97]⟩, 10)]) := by decide
  have e4 : seenC 1 [(⟨#[97]⟩, 10)] ⟨#[98]⟩ 20 10 = (0, [(⟨#[98]⟩, 20)]) := by decide
  have e5 : seenC 1 [(⟨#[98]⟩, 20)] ⟨#[120]⟩ 5 5 = (5, [(⟨#[98]⟩, 20)]) := by decide
  have hR := hA.toHasR
  refine ⟨setM (newR S 1) S.n [(⟨#[98]⟩, 20)] 4, ?_, rfl, ?_⟩
  · rw [docall_keep hA.n49.1 hA.n49.2.1 hA.n49.2.2 rfl (by show 0 ≤ 41; omega)]
    simp [f49, f49b, put_apply, retRs, retR, new_spec hR, seen_spec hR h0, seen_spec hR h1, seen_spec hR h2, seen_spec hR h3, seen_spec hR h4, len_spec hR h4, e1, e2, e3, e4, e5, setM_setM]
  · simp [setM, newR, AS.new]; omega


def Tru (o : Option (AV × AS)) : Prop := ∃ S', o = some (.sc (.bool true), S')
@[simp] theorem tru_some {b : Bool} {S : AS} : Tru (some (.sc (.bool b), S)) ↔ b = true := by
  cases b <;> simp [Tru]

structure HasR6 (A : AProg) : Prop extends HasR0 A where
  n6 : A.ext 6 = none ∧ A.funcs 6 = some f6 ∧ A.mode 6 = .keep

theorem longer_law (hA : HasR6 A) {S : AS} (hn : S.ro ≤ S.n) (id : ByteArray) (first other at_ : Int) :
    Tru (docall A (run A) 6 [.sc (.string id), .sc (.int .i64 first), .sc (.int .i64 other), .sc (.int .i64 at_)] S) := by
  obtain ⟨S1, hs, r1, n1⟩ := shown_spec hA.toHasR0 hn
  have hR := hA.toHasR
  have h0 : IsCache (newR S1 1) (S1.n + 1) S1.n 1 [] := newR_C (room := 1) (by omega)
  have w1 : IntKind.i64.wrap (1 + first % 1024) = 1 + first % 1024 := w64 (by omega)
  have w2 : IntKind.i64.wrap (1 + other % 1024) = 1 + other % 1024 := w64 (by omega)
  have p1 : 0 < 1 + first % 1024 := by omega
  have p2 : 0 < 1 + other % 1024 := by omega
  generalize hF : 1 + first % 1024 = F at w1 p1
  generalize hO : 1 + other % 1024 = O at w2 p2
  generalize hat : at_ % 2048 = T
  generalize hid : cutS id 30 = x
  have h1 := h0.setM [(x, F)] 1
  have h2 := h0.setM [(x, max F O)] 2
  have h3 := h0.setM (liveC T [(x, max F O)]) 3
  have e1 : seenC 1 [] x F 0 = (0, [(x, F)]) := by simp [seenC, liveC, lookC, setC]; omega
  have e2 : seenC 1 [(x, F)] x O 0 = (9, [(x, max F O)]) := by simp [seenC, liveC, lookC, setC, p1]; omega
  have q1 : ¬ F ≤ 0 := by omega
  have q2 : ¬ O ≤ 0 := by omega
  by_cases hT : max F O ≤ T
  · have e3 : liveC T [(x, max F O)] = [] := by simp [liveC]; omega
    rw [e3] at h3
    rw [docall_keep hA.n6.1 hA.n6.2.1 hA.n6.2.2 rfl (by show 4 ≤ 71; omega)]
    simp [f6, f6b, put_apply, retRs, retR, hs, new_spec hR, hF, hO, hat, hid, w1, w2, seen_spec hR h0, seen_spec hR h1, prune_spec hR h2, len_spec hR h3, e1, e2, e3, setM_setM, q1, q2, hT, w64]
  · have e3 : liveC T [(x, max F O)] = [(x, max F O)] := by simp [liveC]; omega
    rw [e3] at h3
    rw [docall_keep hA.n6.1 hA.n6.2.1 hA.n6.2.2 rfl (by show 4 ≤ 71; omega)]
    simp [f6, f6b, put_apply, retRs, retR, hs, new_spec hR, hF, hO, hat, hid, w1, w2, seen_spec hR h0, seen_spec hR h1, prune_spec hR h2, len_spec hR h3, e1, e2, e3, setM_setM, q1, q2, hT, w64]

end
end Abs
