/- The replay cache: what its functions do. -/
import Derived.Test.YtebibndnphkmeaaE3
import Derived.Test.YtebibndnphkmeaaE4
set_option linter.unusedVariables false
set_option linter.unusedSimpArgs false
set_option linter.unusedSectionVars false
namespace Abs
open Go

/- entries -/
def esC (l : List (ByteArray × Int)) : List (Value × AV) := l.map fun p => (.string p.1, .sc (.int .i64 p.2))

def lookC (id : ByteArray) : List (ByteArray × Int) → Option Int
  | [] => none
  | p :: l => if p.1 = id then some p.2 else lookC id l

def setC (id : ByteArray) (v : Int) : List (ByteArray × Int) → List (ByteArray × Int)
  | [] => [(id, v)]
  | p :: l => if p.1 = id then (id, v) :: l else p :: setC id v l

def liveC (now : Int) (l : List (ByteArray × Int)) : List (ByteArray × Int) := l.filter fun p => decide (now < p.2)

def seenC (room : Int) (l : List (ByteArray × Int)) (id : ByteArray) (until_ now : Int) : Int × List (ByteArray × Int) :=
  if until_ ≤ now then (5, l) else
  match lookC id (liveC now l) with
  | some old => (9, setC id (max old until_) (liveC now l))
  | none => if room ≤ (liveC now l).length then (10, liveC now l) else (0, setC id until_ (liveC now l))

/- the heap behind it -/
def setM (S : AS) (mid : Nat) (l : List (ByteArray × Int)) (k : Nat) : AS := { S.set mid (some (.map (esC l))) with n := S.n + k }

structure IsCache (S : AS) (cid mid : Nat) (room : Int) (l : List (ByteArray × Int)) : Prop where
  c : S.heap cid = some (.rows 2 [[.sc (.int .i64 room), .mp mid]])
  m : S.heap mid = some (.map (esC l))
  ro : S.ro ≤ mid
  ltc : cid < S.n
  ltm : mid < S.n

theorem IsCache.ne {S : AS} {cid mid : Nat} {room : Int} {l : List (ByteArray × Int)} (h : IsCache S cid mid room l) : cid ≠ mid := by
  rintro rfl
  have := h.c; rw [h.m] at this; cases this

theorem IsCache.setM {S : AS} {cid mid : Nat} {room : Int} {l : List (ByteArray × Int)} (h : IsCache S cid mid room l) (l' : List (ByteArray × Int)) (k : Nat) : IsCache (setM S mid l' k) cid mid room l' where
  c := by show (if cid = mid then _ else _) = _; rw [if_neg h.ne]; exact h.c
  m := by show (if mid = mid then _ else _) = _; rw [if_pos rfl]
  ro := h.ro
  ltc := Nat.lt_of_lt_of_le h.ltc (Nat.le_add_right _ _)
  ltm := Nat.lt_of_lt_of_le h.ltm (Nat.le_add_right _ _)

theorem setM_setM {S : AS} {mid : Nat} {l l' : List (ByteArray × Int)} {k k' : Nat} : setM (setM S mid l k) mid l' k' = setM S mid l' (k + k') := by
  unfold setM AS.set
  simp only [AS.mk.injEq, and_true]
  refine ⟨?_, by omega⟩
  funext j
  split <;> rfl

theorem findK_esC {id : ByteArray} : ∀ {l : List (ByteArray × Int)} {i : Nat}, ∃ r, findK (.string id) (esC l) i = some r ∧ (r.map fun x => x.2) = (lookC id l).map (fun n => .sc (.int .i64 n)) ∧
    ∀ v, (match r with | some (j, _) => i ≤ j ∧ ∀ pre : List (Value × AV), pre.length = i → (pre ++ esC l).set j (.string id, .sc (.int .i64 v)) = pre ++ esC (setC id v l) | none => esC l ++ [(.string id, .sc (.int .i64 v))] = esC (setC id v l))
  | [], i => ⟨none, rfl, rfl, fun v => rfl⟩
  | p :: l, i => by
    obtain ⟨k, n⟩ := p
    by_cases h : k = id
    · subst h
      refine ⟨some (i, .sc (.int .i64 n)), ?_, ?_, fun v => ⟨Nat.le_refl _, fun pre hp => ?_⟩⟩
      · show findK (.string k) ((.string k, .sc (.int .i64 n)) :: esC l) i = _
        have : sameKey (.string k) (.string k) = some true := by simp only [sameKey, ba_beq.2 rfl]
        rw [findK, this]
      · simp [lookC]
      · subst hp
        simp [esC, setC]
    · obtain ⟨r, h1, h2, h3⟩ := @findK_esC id l (i + 1)
      refine ⟨r, ?_, ?_, fun v => ?_⟩
      · show findK (.string id) ((.string k, .sc (.int .i64 n)) :: esC l) i = _
        have : sameKey (.string id) (.string k) = some false := by
          simp only [sameKey]
          cases hb : (id == k) with
          | false => rfl
          | true => exact absurd (ba_beq.1 hb).symm h
        rw [findK, this]; exact h1
      · rw [h2]; simp [lookC, h]
      · have := h3 v
        cases r with
        | none =>
          simp only at this ⊢
          simp only [setC, h, if_false]
          show (_ :: esC l) ++ _ = _ :: _
          rw [List.cons_append, this]; rfl
        | some r =>
          obtain ⟨j, x⟩ := r
          simp only at this ⊢
          refine ⟨by omega, fun pre hp => ?_⟩
          have h4 := this.2 (pre ++ [(.string k, .sc (.int .i64 n))]) (by simp [hp])
          simp only [setC, h, if_false]
          simp only [List.append_assoc, List.singleton_append] at h4
          exact h4

section
variable {S : AS} {cid mid : Nat} {room : Int} {l : List (ByteArray × Int)} {d : Option Nat} {rg : Nat → Option (List AV)}

theorem opev_ldc (h : IsCache S cid mid room l) : opev (.ld none 1 false) d rg S [.ptr cid 0 1] = some (.mp mid, none, S) := by
  rw [opev_ld_ptr h.c]; simp
theorem opev_ldr (h : IsCache S cid mid room l) : opev (.ld none 1 false) d rg S [.ptr cid 0 0] = some (.sc (.int .i64 room), none, S) := by
  rw [opev_ld_ptr h.c]; simp
theorem opev_lenC (h : IsCache S cid mid room l) : opev .lenM d rg S [.mp mid] = some (.sc (.int .i64 l.length), none, S) := by
  rw [opev_lenM h.m]; simp [esC]
theorem opev_lookC (h : IsCache S cid mid room l) {id : ByteArray} : opev (.lookup true (.sc (.int .i64 0)) true) d rg S [.mp mid, .sc (.string id)] = some (.tup [.sc (.int .i64 ((lookC id l).getD 0)), .sc (.bool (lookC id l).isSome)], none, S) := by
  obtain ⟨r, h1, h2, _⟩ := @findK_esC id l 0
  simp only [opev, isStr, h.m, Option.bind_some, h1, Option.map_some]
  cases r with
  | none => cases hl : lookC id l with
    | none => simp [lookVal]
    | some n => rw [hl] at h2; cases h2
  | some r => cases hl : lookC id l with
    | none => rw [hl] at h2; cases h2
    | some n => rw [hl] at h2; simp at h2; simp [lookVal, h2]
theorem opev_setC (h : IsCache S cid mid room l) {id : ByteArray} {n : Int} : opev (.mapset true) d rg S [.mp mid, .sc (.string id), .sc (.int .i64 n)] = some (.junk, none, setM S mid (setC id n l) 0) := by
  obtain ⟨r, h1, _, h3⟩ := @findK_esC id l 0
  have h3 := h3 n
  simp only [opev, isStr, isReg_sc, h.m, h.ro, h1, Option.map_some, and_self, if_true]
  cases r with
  | none =>
    simp only at h3 ⊢
    rw [h3]; rfl
  | some r =>
    obtain ⟨j, x⟩ := r
    simp only at h3 ⊢
    have := h3.2 [] rfl
    simp only [List.nil_append] at this
    rw [this]; rfl

theorem pruneG_C (h : IsCache S cid mid room l) {now : Int} : pruneG [.ptr cid 0 0, .sc (.int .i64 now)] S = some (.sc (.int .i64 (IntKind.i64.wrap (l.length - (liveC now l).length))), setM S mid (liveC now l) 1) := by
  have hg : (esC l).all goodE = true := by
    rw [List.all_eq_true]
    intro e he
    obtain ⟨p, _, rfl⟩ := List.mem_map.1 he
    rfl
  have hf : (esC l).filter (liveE now) = esC (liveC now l) := by
    unfold esC liveC
    rw [List.filter_map]
    rfl
  simp only [pruneG, h.c, List.getElem?_cons_zero, h.m, h.ro, hg, and_self, if_true, hf]
  simp [esC, setM]
end

def out51 : ACode := .seq .skip (.seq (.ops [⟨some 52, .pur .mov, [.t 9], none⟩, ⟨some 8, .pur .mov, [.t 52], none⟩]) .ret)
theorem afind51 : afind f51_l0 0 = some out51 := rfl

def newR (S : AS) (room : Int) : AS := (S.new (.map [])).new (.rows 2 [[.sc (.int .i64 (max room 0)), .mp S.n]])

theorem newR_C {S : AS} {room : Int} (hn : S.ro ≤ S.n) : IsCache (newR S room) (S.n + 1) S.n (max room 0) [] where
  c := by simp [newR, AS.new]
  m := by simp [newR, AS.new, esC]
  ro := hn
  ltc := by simp [newR, AS.new]
  ltm := by simp [newR, AS.new]; omega

/- the functions -/
structure HasR (A : AProg) : Prop where
  n50 : A.ext 50 = none ∧ A.funcs 50 = some f50 ∧ A.mode 50 = .keep
  n51 : A.ext 51 = none ∧ A.funcs 51 = some f51 ∧ A.mode 51 = .keep
  n52 : A.ext 52 = none ∧ A.funcs 52 = some f52 ∧ (A.mode 52 = .keep ∨ A.mode 52 = .calm)
  n53 : A.ext 53 = some pruneG

section
variable {A : AProg} (hA : HasR A) {S : AS} {cid mid : Nat} {room : Int} {l : List (ByteArray × Int)}
include hA

theorem prune_spec (h : IsCache S cid mid room l) {now : Int} : docall A (run A) 53 [.ptr cid 0 0, .sc (.int .i64 now)] S = some (.sc (.int .i64 (IntKind.i64.wrap (l.length - (liveC now l).length))), setM S mid (liveC now l) 1) := by
  rw [docall_ext hA.n53 rfl, pruneG_C h]

theorem len_spec (h : IsCache S cid mid room l) : docall A (run A) 52 [.ptr cid 0 0] S = some (.sc (.int .i64 l.length), S) := by
  rcases hA.n52.2.2 with hm | hm
  · rw [docall_keep hA.n52.1 hA.n52.2.1 hm rfl (by show 1 ≤ 8; omega)]
    simp [f52, f52b, put_apply, opev_ldc h, opev_lenC h, retRs, retR]
  · have h1 : ∀ d rg, opev (.ld none 1 false) d rg { S with ro := S.n } [.ptr cid 0 1] = some (.mp mid, none, { S with ro := S.n }) := fun d rg => by
      rw [opev_ld_ptr (S := { S with ro := S.n }) h.c]; simp
    have h2 : ∀ d rg, opev .lenM d rg { S with ro := S.n } [.mp mid] = some (.sc (.int .i64 l.length), none, { S with ro := S.n }) := fun d rg => by
      rw [opev_lenM (S := { S with ro := S.n }) h.m]; simp [esC]
    rw [docall_calm (args' := [.ptr cid 0 0]) hA.n52.1 hA.n52.2.1 hm rfl rfl rfl (by show 1 ≤ 8; omega)]
    simp [f52, f52b, put_apply, h1, h2, retRs, retR, calmR]
    rfl

theorem new_spec {room : Int} : docall A (run A) 50 [.sc (.int .i64 room)] S = some (.ptr (S.n + 1) 0 0, newR S room) := by
  rw [docall_keep hA.n50.1 hA.n50.2.1 hA.n50.2.2 rfl (by show 1 ≤ 8; omega)]
  simp [f50, f50b, put_apply, retRs, retR, opev, fillA, newR, AS.new]
  rfl

theorem seen_spec (h : IsCache S cid mid room l) {id : ByteArray} {t now : Int} :
    docall A (run A) 51 [.ptr cid 0 0, .sc (.string id), .sc (.int .i64 t), .sc (.int .i64 now)] S =
      some (.sc (.int .i64 (seenC room l id t now).1), if t ≤ now then S else setM S mid (seenC room l id t now).2 1) := by
  rw [docall_keep hA.n51.1 hA.n51.2.1 hA.n51.2.2 rfl (by show 4 ≤ 53; omega)]
  have hp := h.setM (liveC now l) 1
  have key : ∀ b, afind b 0 = some out51 → fin f51.res (exec A (.seq (.ops [⟨some 8, .pur .mov, [.k (.i (0))], none⟩]) (.scope b f51_l0)) (st 53 (ini [.ptr cid 0 0, .sc (.string id), .sc (.int .i64 t), .sc (.int .i64 now)]) (fun _ => none) S) []) =
      some (.sc (.int .i64 (seenC room l id t now).1), if t ≤ now then S else setM S mid (seenC room l id t now).2 1) := by
    intro b hb
    by_cases h1 : t ≤ now
    · simp [f51, f51_l0, put_apply, seenC, h1, retRs, retR, unw_scope_goto hb, out51]
    · cases h2 : lookC id (liveC now l) with
      | some old =>
        simp [f51, f51_l0, put_apply, seenC, h1, h2, retRs, retR, unw_scope_goto hb, out51, prune_spec hA h, opev_ldc hp, opev_lookC hp, opev_setC hp, setM_setM]
      | none =>
        by_cases h3 : room ≤ (liveC now l).length
        · simp [f51, f51_l0, put_apply, seenC, h1, h2, h3, retRs, retR, unw_scope_goto hb, out51, prune_spec hA h, opev_ldc hp, opev_lookC hp, opev_setC hp, opev_lenC hp, opev_ldr hp, setM_setM]
        · simp [f51, f51_l0, put_apply, seenC, h1, h2, h3, retRs, retR, unw_scope_goto hb, out51, prune_spec hA h, opev_ldc hp, opev_lookC hp, opev_setC hp, opev_lenC hp, opev_ldr hp, setM_setM]
  exact key f51_l0 afind51

end
end Abs

namespace Abs
open Go

structure HasR0 (A : AProg) : Prop extends HasR A where
  n49 : A.ext 49 = none ∧ A.funcs 49 = some f49 ∧ A.mode 49 = .keep

section
variable {A : AProg}

theorem shown_spec (hA : HasR0 A) {S : AS} (hn : S.ro ≤ S.n) : ∃ S', docall A (run A) 49 [] S = some (.sc (.bool true), S') ∧ S'.ro = S.ro ∧ S.n ≤ S'.n := by
  have h0 : IsCache (newR S 1) (S.n + 1) S.n 1 [] := newR_C (room := 1) hn
  have h1 := h0.setM [(⟨#[97]⟩, 10)] 1
  have h2 := h0.setM [(⟨#[97]⟩, 10)] 2
  have h3 := h0.setM [(⟨#[97]⟩, 10)] 3
  have h4 := h0.setM [(⟨#[98]⟩, 20)] 4
  have e1 : seenC 1 [] ⟨#[97]⟩ 10 1 = (0, [(⟨#[97]⟩, 10)]) := by decide
  have e2 : seenC 1 [(⟨#[97]⟩, 10)] ⟨#[97]⟩ 10 1 = (9, [(⟨#[97]⟩, 10)]) := by decide
  have e3 : seenC 1 [(⟨#[97]⟩, 10)] ⟨#[98]⟩ 10 1 = (10, [(⟨#[97]⟩, 10)]) := by decide
  have e4 : seenC 1 [(⟨#[97]⟩, 10)] ⟨#[98]⟩ 20 10 = (0, [(⟨#[98]⟩, 20)]) := by decide
  have e5 : seenC 1 [(⟨#[98]⟩, 20)] ⟨#[120]⟩ 5 5 = (5, [(⟨#[98]⟩, 20)]) := by decide
  have hR := hA.toHasR
  refine ⟨setM (newR S 1) S.n [(⟨#[98]⟩, 20)] 4, ?_, rfl, ?_⟩
  · rw [docall_keep hA.n49.1 hA.n49.2.1 hA.n49.2.2 rfl (by show 0 ≤ 41; omega)]
    simp [f49, f49b, put_apply, retRs, retR, new_spec hR, seen_spec hR h0, seen_spec hR h1, seen_spec hR h2, seen_spec hR h3, seen_spec hR h4, len_spec hR h4, e1, e2, e3, e4, e5, setM_setM]
  · simp [setM, newR, AS.new]; omega


structure HasR6 (A : AProg) : Prop extends HasR0 A where
  n6 : A.ext 6 = none ∧ A.funcs 6 = some f6 ∧ A.mode 6 = .keep

theorem longer_law (hA : HasR6 A) {S : AS} (hn : S.ro ≤ S.n) (id : ByteArray) (first other at_ : Int) :
    Tru (docall A (run A) 6 [.sc (.string id), .sc (.int .i64 first), .sc (.int .i64 other), .sc (.int .i64 at_)] S) := by
  obtain ⟨S1, hs, r1, n1⟩ := shown_spec hA.toHasR0 hn
  have hR := hA.toHasR
  have h0 : IsCache (newR S1 1) (S1.n + 1) S1.n 1 [] := newR_C (room := 1) (by omega)
  have w1 : IntKind.i64.wrap (1 + first % 1024) = 1 + first % 1024 := w64 (by omega)
  have w2 : IntKind.i64.wrap (1 + other % 1024) = 1 + other % 1024 := w64 (by omega)
  have p1 : 0 < 1 + first % 1024 := by omega
  have p2 : 0 < 1 + other % 1024 := by omega
  generalize hF : 1 + first % 1024 = F at w1 p1
  generalize hO : 1 + other % 1024 = O at w2 p2
  generalize hat : at_ % 2048 = T
  generalize hid : cutS id 30 = x
  have h1 := h0.setM [(x, F)] 1
  have h2 := h0.setM [(x, max F O)] 2
  have h3 := h0.setM (liveC T [(x, max F O)]) 3
  have e1 : seenC 1 [] x F 0 = (0, [(x, F)]) := by simp [seenC, liveC, lookC, setC]; omega
  have e2 : seenC 1 [(x, F)] x O 0 = (9, [(x, max F O)]) := by simp [seenC, liveC, lookC, setC, p1]; omega
  have q1 : ¬ F ≤ 0 := by omega
  have q2 : ¬ O ≤ 0 := by omega
  by_cases hT : max F O ≤ T
  · have e3 : liveC T [(x, max F O)] = [] := by simp [liveC]; omega
    rw [e3] at h3
    rw [docall_keep hA.n6.1 hA.n6.2.1 hA.n6.2.2 rfl (by show 4 ≤ 71; omega)]
    simp [f6, f6b, put_apply, retRs, retR, hs, new_spec hR, hF, hO, hat, hid, w1, w2, seen_spec hR h0, seen_spec hR h1, prune_spec hR h2, len_spec hR h3, e1, e2, e3, setM_setM, q1, q2, hT, w64]
  · have e3 : liveC T [(x, max F O)] = [(x, max F O)] := by simp [liveC]; omega
    rw [e3] at h3
    rw [docall_keep hA.n6.1 hA.n6.2.1 hA.n6.2.2 rfl (by show 4 ≤ 71; omega)]
    simp [f6, f6b, put_apply, retRs, retR, hs, new_spec hR, hF, hO, hat, hid, w1, w2, seen_spec hR h0, seen_spec hR h1, prune_spec hR h2, len_spec hR h3, e1, e2, e3, setM_setM, q1, q2, hT, w64]

end
end Abs

namespace Abs
open Go

structure HasR5 (A : AProg) : Prop extends HasR0 A where
  n5 : A.ext 5 = none ∧ A.funcs 5 = some f5 ∧ A.mode 5 = .keep

/- a step -/
structure Stp where
  id : ByteArray
  till : Int
  now : Int
  prune : Bool
def Stp.row (s : Stp) : List AV := [.sc (.string s.id), .sc (.int .i64 s.till), .sc (.int .i64 s.now), .sc (.bool s.prune)]
def stpA (l : List Stp) : AV := lstN 4 (l.map Stp.row)

section
variable {A : AProg}

/- two caches -/
structure Two (S : AS) (c1 m1 : Nat) (r1 : Int) (l1 : List (ByteArray × Int)) (c2 m2 : Nat) (r2 : Int) (l2 : List (ByteArray × Int)) : Prop where
  a : IsCache S c1 m1 r1 l1
  b : IsCache S c2 m2 r2 l2
  n1 : m1 ≠ c2
  n2 : m2 ≠ c1
  n3 : m1 ≠ m2

theorem Two.setA {S : AS} {c1 m1 : Nat} {r1 : Int} {l1 : List (ByteArray × Int)} {c2 m2 : Nat} {r2 : Int} {l2 : List (ByteArray × Int)} (h : Two S c1 m1 r1 l1 c2 m2 r2 l2) (l : List (ByteArray × Int)) (k : Nat) : Two (setM S m1 l k) c1 m1 r1 l c2 m2 r2 l2 where
  a := h.a.setM l k
  b := by
    refine ⟨?_, ?_, h.b.ro, Nat.lt_of_lt_of_le h.b.ltc (Nat.le_add_right _ _), Nat.lt_of_lt_of_le h.b.ltm (Nat.le_add_right _ _)⟩
    · show (if c2 = m1 then _ else _) = _; rw [if_neg (Ne.symm h.n1)]; exact h.b.c
    · show (if m2 = m1 then _ else _) = _; rw [if_neg (Ne.symm h.n3)]; exact h.b.m
  n1 := h.n1
  n2 := h.n2
  n3 := h.n3
theorem Two.symm {S : AS} {c1 m1 : Nat} {r1 : Int} {l1 : List (ByteArray × Int)} {c2 m2 : Nat} {r2 : Int} {l2 : List (ByteArray × Int)} (h : Two S c1 m1 r1 l1 c2 m2 r2 l2) : Two S c2 m2 r2 l2 c1 m1 r1 l1 :=
  ⟨h.b, h.a, h.n2, h.n1, Ne.symm h.n3⟩
theorem Two.setB {S : AS} {c1 m1 : Nat} {r1 : Int} {l1 : List (ByteArray × Int)} {c2 m2 : Nat} {r2 : Int} {l2 : List (ByteArray × Int)} (h : Two S c1 m1 r1 l1 c2 m2 r2 l2) (l : List (ByteArray × Int)) (k : Nat) : Two (setM S m2 l k) c1 m1 r1 l1 c2 m2 r2 l :=
  (h.symm.setA l k).symm

/- the entries of one id -/
def ofId (id : ByteArray) (l : List (ByteArray × Int)) : List (ByteArray × Int) := l.filter fun p => p.1 = id

theorem ofId_live {id : ByteArray} {now : Int} {l : List (ByteArray × Int)} : ofId id (liveC now l) = liveC now (ofId id l) := by
  unfold ofId liveC
  rw [List.filter_filter, List.filter_filter]
  congr 1; funext p; exact Bool.and_comm _ _
theorem look_ofId {id : ByteArray} : ∀ {l : List (ByteArray × Int)}, lookC id l = lookC id (ofId id l)
  | [] => rfl
  | p :: l => by
    unfold ofId
    by_cases h : p.1 = id
    · simp [lookC, h]
    · simp only [lookC, h, if_false, List.filter_cons, decide_false, Bool.false_eq_true]
      exact look_ofId
theorem set_ofId {id : ByteArray} {v : Int} : ∀ {l : List (ByteArray × Int)}, ofId id (setC id v l) = setC id v (ofId id l)
  | [] => by simp [setC, ofId]
  | p :: l => by
    by_cases h : p.1 = id
    · simp [setC, ofId, h]
    · have := @set_ofId id v l
      simp only [setC, h, if_false]
      unfold ofId at this ⊢
      simp only [List.filter_cons, h, decide_false, Bool.false_eq_true, if_false]
      exact this
theorem set_other {id own : ByteArray} {v : Int} (hne : own ≠ id) : ∀ {l : List (ByteArray × Int)}, ofId id (setC own v l) = ofId id l
  | [] => by simp [setC, ofId, hne]
  | p :: l => by
    by_cases h : p.1 = own
    · have : p.1 ≠ id := by rw [h]; exact hne
      simp [setC, ofId, h, hne]
    · have := @set_other id own v hne l
      simp only [setC, h, if_false]
      unfold ofId at this ⊢
      simp only [List.filter_cons, this]
theorem set_len {id : ByteArray} {v : Int} : ∀ {l : List (ByteArray × Int)}, (setC id v l).length ≤ l.length + 1
  | [] => by simp [setC]
  | p :: l => by
    simp only [setC]
    split
    · simp
    · simp only [List.length_cons]; have := @set_len id v l; omega
theorem live_len {now : Int} {l : List (ByteArray × Int)} : (liveC now l).length ≤ l.length := List.length_filter_le _ _

theorem seen_len {room : Int} {l : List (ByteArray × Int)} {id : ByteArray} {t now : Int} : (seenC room l id t now).2.length ≤ l.length + 1 := by
  unfold seenC
  have := @live_len now l
  split
  · simp
  · split
    · have := @set_len id (max (by assumption) t) (liveC now l); simp only; omega
    · split
      · simp only; omega
      · have := @set_len id t (liveC now l); simp only; omega

/- what is the same of one id -/
theorem seen_same {room : Int} {l1 l2 : List (ByteArray × Int)} {id : ByteArray} {t now : Int} (h : ofId id l1 = ofId id l2) (h1 : (l1.length : Int) < room) (h2 : (l2.length : Int) < room) :
    (seenC room l1 id t now).1 = (seenC room l2 id t now).1 ∧ ofId id (seenC room l1 id t now).2 = ofId id (seenC room l2 id t now).2 := by
  have e : ofId id (liveC now l1) = ofId id (liveC now l2) := by rw [ofId_live, ofId_live, h]
  have el : lookC id (liveC now l1) = lookC id (liveC now l2) := by rw [look_ofId, e, ← look_ofId]
  have q1 := @live_len now l1
  have q2 := @live_len now l2
  unfold seenC
  by_cases ht : t ≤ now
  · rw [if_pos ht, if_pos ht]; exact ⟨rfl, h⟩
  · rw [if_neg ht, if_neg ht, el]
    cases lookC id (liveC now l2) with
    | some old => exact ⟨rfl, by simp only; rw [set_ofId, set_ofId, e]⟩
    | none =>
      simp only
      rw [if_neg (by omega), if_neg (by omega)]
      exact ⟨rfl, by simp only; rw [set_ofId, set_ofId, e]⟩
theorem seen_other {room : Int} {l : List (ByteArray × Int)} {id own : ByteArray} {t now : Int} (hne : own ≠ id) (ht : ¬ t ≤ now) : ofId id (seenC room l own t now).2 = liveC now (ofId id l) := by
  unfold seenC
  rw [if_neg ht]
  split
  · simp only; rw [set_other hne, ofId_live]
  · split
    · rw [ofId_live]
    · simp only; rw [set_other hne, ofId_live]

theorem apart_loop (hA : HasR5 A) {l : List Stp} {id : ByteArray} {ks : List Kn} {c1 m1 c2 m2 : Nat}
    (hk : ∀ e S, e 5 = .sc (.bool true) → Tru (fin [.tmp 4] (unw A (some (.exit 0, st 76 e (fun _ => none) S)) ks))) (hl : l.length ≤ maxLen) :
    ∀ (n i : Nat) (e : Nat → AV) (rg : Nat → Option (List AV)) (S : AS) (l1 l2 : List (ByteArray × Int)) (tm : List Nat), n + i = min l.length 50 → tm = [4, 9, 10, 11, 26, 27, 28, 29, 30, 31, 32, 33, 34, 35, 36, 37, 38, 39, 40, 41, 42, 43, 44, 45, 46, 47, 48, 49, 50, 51, 52, 53, 54, 55, 56, 57, 58, 59, 60, 61, 62, 63, 64, 65, 66, 67, 68, 69, 70, 71, 72, 73, 74] →
      fgtR [9] rg = (fun _ => none) → NR tm e → e 0 = stpA l → e 1 = .sc (.string id) → e 5 = .sc (.bool true) → e 6 = .ptr c1 0 0 → e 7 = .ptr c2 0 0 → e 8 = .sc (.int .i64 i) → Two S c1 m1 100 l1 c2 m2 100 l2 → ofId id l1 = ofId id l2 → l1.length ≤ i → l2.length ≤ i →
      Tru (fin [.tmp 4] (exec A (.loop tm [9] f5_l0) (st 76 e rg S) ks)) := by
  intro n
  induction n with
  | zero =>
    intro i e rg S l1 l2 tm hn htm hrg hr h0 h1 h5 h6 h7 h8 hT ho q1 q2
    rw [exec_loop_rg hr, hrg]
    generalize hkk : Kn.loop tm [9] f5_l0 :: ks = kk
    subst htm
    by_cases hc : (i : Int) < l.length
    · have hi : ¬ (i : Int) < 50 := by omega
      simp [f5_l0, put_apply, h0, h1, h5, h6, h7, h8, stpA, hc, hi]
      rw [← hkk]; simp
      exact hk _ _ (by simp [put_apply, h5])
    · simp [f5_l0, put_apply, h0, h1, h5, h6, h7, h8, stpA, hc]
      rw [← hkk]; simp
      exact hk _ _ (by simp [put_apply, h5])
  | succ n ih =>
    intro i e rg S l1 l2 tm hn htm hrg hr h0 h1 h5 h6 h7 h8 hT ho q1 q2
    rw [exec_loop_rg hr, hrg]
    generalize hkk : Kn.loop tm [9] f5_l0 :: ks = kk
    have hc : (i : Int) < l.length := by omega
    have hi : (i : Int) < 50 := by omega
    have hlt : i < l.length := by omega
    obtain ⟨s, hs⟩ : ∃ s, l[i]? = some s := ⟨l[i], by simp [hlt]⟩
    have w1 : IntKind.i64.wrap ((i : Int) + 1) = ((i + 1 : Nat) : Int) := w64 (by omega)
    have hR := hA.toHasR
    generalize hown : cutS s.id 20 = own
    have k1 := @seen_len 100 l1 own s.till s.now
    have k2 := @seen_len 100 l2 own s.till s.now
    by_cases hid : own = id
    · obtain ⟨s1, s2⟩ := seen_same (room := 100) (t := s.till) (now := s.now) ho (by omega) (by omega)
      subst hid
      by_cases ht : s.till ≤ s.now
      · subst htm
        simp [f5_l0, put_apply, h0, h1, h5, h6, h7, h8, stpA, hc, hi, hs, Stp.row, setCells, hown, seen_spec hR hT.a, seen_spec hR hT.b, ht, s1, w1]
        rw [← hkk, unw_loop]
        exact ih (i + 1) _ _ _ _ _ _ (by omega) rfl (by simp [fgtR_upd]) (by repeat (first | exact NR_fgt' hr | refine NR_put ?_ rfl)) (by simp [put_apply, h0]) (by simp [put_apply, h1]) (by simp [put_apply, h5]) (by simp [put_apply, h6]) (by simp [put_apply, h7]) (by simp [put_apply]) hT ho (by omega) (by omega)
      · have hT1 := hT.setA (seenC 100 l1 own s.till s.now).2 1
        have hT2 := hT1.setB (seenC 100 l2 own s.till s.now).2 1
        subst htm
        simp [f5_l0, put_apply, h0, h1, h5, h6, h7, h8, stpA, hc, hi, hs, Stp.row, setCells, hown, seen_spec hR hT.a, seen_spec hR hT1.b, ht, s1, w1]
        rw [← hkk, unw_loop]
        exact ih (i + 1) _ _ _ _ _ _ (by omega) rfl (by simp [fgtR_upd]) (by repeat (first | exact NR_fgt' hr | refine NR_put ?_ rfl)) (by simp [put_apply, h0]) (by simp [put_apply, h1]) (by simp [put_apply, h5]) (by simp [put_apply, h6]) (by simp [put_apply, h7]) (by simp [put_apply]) hT2 s2 (by omega) (by omega)
    · by_cases ht : s.till ≤ s.now
      · have ht' : ¬ s.now < s.till := by omega
        subst htm
        simp [f5_l0, put_apply, h0, h1, h5, h6, h7, h8, stpA, hc, hi, hs, Stp.row, setCells, hown, hid, seen_spec hR hT.a, ht, ht', w1]
        rw [← hkk, unw_loop]
        exact ih (i + 1) _ _ _ _ _ _ (by omega) rfl (by simp [fgtR_upd]) (by repeat (first | exact NR_fgt' hr | refine NR_put ?_ rfl)) (by simp [put_apply, h0]) (by simp [put_apply, h1]) (by simp [put_apply, h5]) (by simp [put_apply, h6]) (by simp [put_apply, h7]) (by simp [put_apply]) hT ho (by omega) (by omega)
      · have ht' : s.now < s.till := by omega
        have hT1 := hT.setA (seenC 100 l1 own s.till s.now).2 1
        have hT2 := hT1.setB (liveC s.now l2) 1
        have k3 := @live_len s.now l2
        have s2 : ofId id (seenC 100 l1 own s.till s.now).2 = ofId id (liveC s.now l2) := by rw [seen_other hid ht, ofId_live, ho]
        subst htm
        simp [f5_l0, put_apply, h0, h1, h5, h6, h7, h8, stpA, hc, hi, hs, Stp.row, setCells, hown, hid, seen_spec hR hT.a, prune_spec hR hT1.b, ht, ht', w1]
        rw [← hkk, unw_loop]
        exact ih (i + 1) _ _ _ _ _ _ (by omega) rfl (by simp [fgtR_upd]) (by repeat (first | exact NR_fgt' hr | refine NR_put ?_ rfl)) (by simp [put_apply, h0]) (by simp [put_apply, h1]) (by simp [put_apply, h5]) (by simp [put_apply, h6]) (by simp [put_apply, h7]) (by simp [put_apply]) hT2 s2 (by omega) (by omega)

theorem apart_law (hA : HasR5 A) {S : AS} (hn : S.ro ≤ S.n) (l : List Stp) (hl : l.length ≤ maxLen) (id : ByteArray) : Tru (docall A (run A) 5 [stpA l, .sc (.string id)] S) := by
  obtain ⟨S1, hs, r1, n1⟩ := shown_spec hA.toHasR0 hn
  have hR := hA.toHasR
  have h0 : IsCache (newR S1 100) (S1.n + 1) S1.n 100 [] := newR_C (room := 100) (by omega)
  have h1 : IsCache (newR (newR S1 100) 100) ((newR S1 100).n + 1) (newR S1 100).n 100 [] := newR_C (room := 100) (by simp [newR, AS.new]; omega)
  have hnn : (newR S1 100).n = S1.n + 2 := rfl
  have hT : Two (newR (newR S1 100) 100) (S1.n + 1) S1.n 100 [] (S1.n + 3) (S1.n + 2) 100 [] := by
    refine ⟨⟨?_, ?_, ?_, ?_, ?_⟩, h1, by omega, by omega, by omega⟩
    · simp [newR, AS.new]; omega
    · simp [newR, AS.new, esC]; omega
    · show S1.ro ≤ S1.n; omega
    · show S1.n + 1 < S1.n + 4; omega
    · show S1.n < S1.n + 4; omega
  rw [docall_keep hA.n5.1 hA.n5.2.1 hA.n5.2.2 (by simp [stpA]) (by show 2 ≤ 76; omega)]
  simp [f5, f5b, put_apply, hs, new_spec hR]
  refine apart_loop hA (l := l) (id := cutS id 20) (c1 := S1.n + 1) (m1 := S1.n) (c2 := S1.n + 3) (m2 := S1.n + 2) ?_ hl (min l.length 50) 0 _ _ _ [] [] _ (by omega) rfl (by simp) (by repeat (first | exact NR_ini (by simp [stpA]) | refine NR_put ?_ rfl)) (by simp [put_apply]) (by simp [put_apply]) (by simp [put_apply]) (by simp [put_apply]) (by simp [put_apply, hnn]) (by simp [put_apply]) hT rfl (by simp) (by simp)
  intro e S h5
  simp [put_apply, h5, retRs, retR]

end
end Abs

namespace Abs
open Go

structure HasR4 (A : AProg) : Prop extends HasR0 A where
  n4 : A.ext 4 = none ∧ A.funcs 4 = some f4 ∧ A.mode 4 = .keep

theorem look_none {id : ByteArray} : ∀ {l : List (ByteArray × Int)}, (∀ p ∈ l, p.1 ≠ id) → lookC id l = none
  | [], _ => rfl
  | p :: l, h => by simp only [lookC, h p (by simp), if_false]; exact look_none fun q hq => h q (by simp [hq])
theorem set_new {id : ByteArray} {v : Int} : ∀ {l : List (ByteArray × Int)}, lookC id l = none → setC id v l = l ++ [(id, v)]
  | [], _ => rfl
  | p :: l, h => by
    simp only [lookC] at h
    split at h
    · cases h
    · rename_i hne
      simp only [setC, hne, if_false, List.cons_append, set_new h]
theorem set_same {id : ByteArray} {v : Int} : ∀ {l : List (ByteArray × Int)}, lookC id l = some v → setC id v l = l
  | [], h => by cases h
  | p :: l, h => by
    obtain ⟨k, n⟩ := p
    simp only [lookC] at h
    split at h
    · rename_i hk; cases h; subst hk; simp [setC]
    · rename_i hne; simp only [setC, hne, if_false, set_same h]
theorem live_all {now : Int} {l : List (ByteArray × Int)} (h : ∀ p ∈ l, now < p.2) : liveC now l = l := by
  unfold liveC; rw [List.filter_eq_self]; intro p hp; simpa using h p hp
theorem live_none {now : Int} {l : List (ByteArray × Int)} (h : ∀ p ∈ l, p.2 ≤ now) : liveC now l = [] := by
  unfold liveC; rw [List.filter_eq_nil_iff]; intro p hp; have := h p hp; simp; omega

def idS (i : Nat) : ByteArray := ⟨#[105, 100, UInt8.ofNat (97 + i)]⟩
def idF (a n : Nat) : List (ByteArray × Int) := (List.range' a n).map fun i => (idS i, 100 + (i : Int))
def moreS (i : Nat) : ByteArray := ⟨#[109, 111, 114, 101, UInt8.ofNat (97 + i)]⟩
def byteS (i : Nat) : ByteArray := ⟨#[UInt8.ofNat (97 + i)]⟩
def lateS : ByteArray := ⟨#[108, 97, 116, 101]⟩

theorem idS_inj {i j : Nat} (hi : i < 100) (hj : j < 100) (h : idS i = idS j) : i = j := by
  have h1 : (idS i).data.toList = (idS j).data.toList := by rw [h]
  have h2 : UInt8.ofNat (97 + i) = UInt8.ofNat (97 + j) := by
    have : [105, 100, UInt8.ofNat (97 + i)] = [105, 100, UInt8.ofNat (97 + j)] := h1
    simpa using this
  have h3 := congrArg UInt8.toNat h2
  rw [UInt8.toNat_ofNat', UInt8.toNat_ofNat'] at h3
  omega
theorem idF_snoc {n : Nat} : idF 0 n ++ [(idS n, 100 + (n : Int))] = idF 0 (n + 1) := by
  unfold idF
  rw [List.range'_concat]
  simp
theorem idF_mem {a n : Nat} {p : ByteArray × Int} (h : p ∈ idF a n) : ∃ i, a ≤ i ∧ i < a + n ∧ p = (idS i, 100 + (i : Int)) := by
  unfold idF at h
  obtain ⟨i, hi, rfl⟩ := List.mem_map.1 h
  rw [List.mem_range'_1] at hi
  exact ⟨i, hi.1, hi.2, rfl⟩
theorem idF_len {a n : Nat} : (idF a n).length = n := by simp [idF]
theorem idF_look {n : Nat} (hn : n < 100) : lookC (idS n) (idF 0 n) = none := look_none fun p hp hh => by
  obtain ⟨i, _, h2, rfl⟩ := idF_mem hp
  have := idS_inj (by omega) hn hh; omega
theorem idF_cons {n : Nat} : idF 0 (n + 1) = (idS 0, 100) :: idF 1 n := by unfold idF; rw [List.range'_succ]; rfl
theorem idF_more {n : Nat} {x : ByteArray} (hx : x.size ≠ 3) : lookC x (idF 0 n) = none := look_none fun p hp hh => by
  obtain ⟨i, _, h2, rfl⟩ := idF_mem hp
  exact hx (by rw [← hh]; rfl)
theorem idF_live {a n : Nat} {now : Int} (h : now < 100 + (a : Int)) : liveC now (idF a n) = idF a n := live_all fun p hp => by
  obtain ⟨i, h1, h2, rfl⟩ := idF_mem hp
  show now < 100 + (i : Int); omega

theorem pev_byte1 {n : Int} : pev .bytesStr [.lst 1 true [[.sc (.int .u8 n)]]] = some (.sc (.string ⟨#[UInt8.ofNat n.toNat]⟩)) := by
  simp [pev, bytesOf]

section
variable {A : AProg}

theorem full_loop1 (hA : HasR4 A) {n : Nat} {more : AV} {ks : List Kn} {cid mid : Nat} (h20 : n ≤ 20)
    (hk : ∀ e S, e 0 = .sc (.int .i64 n) → e 1 = more → e 5 = .sc (.bool true) → e 6 = .ptr cid 0 0 → IsCache S cid mid n (idF 0 n) → Tru (fin [.tmp 4] (unw A (some (.exit 0, st 86 e (fun _ => none) S)) ks))) :
    ∀ (m i : Nat) (e : Nat → AV) (S : AS) (tm : List Nat), m + i = n → tm = [4, 18, 19, 20, 21, 22, 23, 24, 25, 26, 27, 28, 29, 30, 31, 32, 33] →
      e 0 = .sc (.int .i64 n) → e 1 = more → e 5 = .sc (.bool true) → e 6 = .ptr cid 0 0 → e 7 = .sc (.int .i64 i) → IsCache S cid mid n (idF 0 i) →
      Tru (fin [.tmp 4] (exec A (.loop tm [] f4_l1) (st 86 e (fun _ => none) S) ks)) := by
  intro m
  induction m with
  | zero =>
    intro i e S tm hn htm h0 h1 h5 h6 h7 hC
    rw [exec_loop]
    generalize hkk : Kn.loop tm [] f4_l1 :: ks = kk
    subst htm
    have : ¬ (i : Int) < (n : Int) := by omega
    have : i = n := by omega
    subst this
    simp [f4_l1, put_apply, h0, h7]
    rw [← hkk]; simp
    exact hk _ _ (by simp [put_apply, h0]) (by simp [put_apply, h1]) (by simp [put_apply, h5]) (by simp [put_apply, h6]) hC
  | succ m ih =>
    intro i e S tm hn htm h0 h1 h5 h6 h7 hC
    rw [exec_loop]
    generalize hkk : Kn.loop tm [] f4_l1 :: ks = kk
    subst htm
    have hlt : (i : Int) < (n : Int) := by omega
    have w1 : IntKind.i64.wrap (97 + (i : Int)) = 97 + (i : Int) := w64 (by omega)
    have w2 : IntKind.u8.wrap (97 + (i : Int)) = 97 + (i : Int) := by
      have : IntKind.u8.wrap (97 + (i : Int)) = (97 + (i : Int)) % 256 := by simp [IntKind.wrap, IntKind.signed, IntKind.bits]
      rw [this]; omega
    have hb : pev .bytesStr [.lst 1 true [[.sc (.int .u8 (97 + (i : Int)))]]] = some (.sc (.string (byteS i))) := by
      rw [pev_byte1]; unfold byteS; congr 5
    have w3 : IntKind.i64.wrap (100 + (i : Int)) = 100 + (i : Int) := w64 (by omega)
    have w4 : IntKind.i64.wrap ((i : Int) + 1) = ((i + 1 : Nat) : Int) := w64 (by omega)
    have hadd : pev (.bin .add) [.sc (.string ⟨#[105, 100]⟩), (.sc (.string (byteS i)))] = some (.sc (.string (idS i))) := by rw [pev_sadd (by simp [ByteArray.size, byteS])]; rfl
    have hs : seenC n (idF 0 i) (idS i) (100 + (i : Int)) 0 = (0, idF 0 (i + 1)) := by
      simp only [seenC]
      rw [if_neg (by omega), idF_live (by omega), idF_look (by omega)]
      simp only [idF_len]
      rw [if_neg (by omega), set_new (idF_look (by omega)), idF_snoc]
    have hC' := hC.setM (idF 0 (i + 1)) 1
    have ht : ¬ 100 + (i : Int) ≤ 0 := by omega
    simp [f4_l1, put_apply, h0, h1, h5, h6, h7, hlt, w1, w2, w3, w4, fillR, hb, hadd, seen_spec hA.toHasR hC, hs, ht]
    rw [← hkk, unw_loop]
    exact ih (i + 1) _ _ _ (by omega) rfl (by simp [put_apply, h0]) (by simp [put_apply, h1]) (by simp [put_apply, h5]) (by simp [put_apply, h6]) (by simp [put_apply]) hC'

theorem full_loop0 (hA : HasR4 A) {n k : Nat} {more : Int} {ks : List Kn} {cid mid : Nat} (h20 : n ≤ 20) (hn1 : 1 ≤ n) (hk7 : more % 8 = k)
    (hk : ∀ e S, e 0 = .sc (.int .i64 n) → e 5 = .sc (.bool true) → e 6 = .ptr cid 0 0 → IsCache S cid mid n (idF 0 n) → Tru (fin [.tmp 4] (unw A (some (.exit 2, st 86 e (fun _ => none) S)) ks))) :
    ∀ (m i : Nat) (e : Nat → AV) (S : AS) (tm : List Nat), m + i = k → tm = [4, 34, 35, 36, 37, 38, 39, 40, 41, 42, 43, 44, 45, 46, 47, 48, 49, 50, 51, 52, 53] →
      e 0 = .sc (.int .i64 n) → e 1 = .sc (.int .i64 more) → e 5 = .sc (.bool true) → e 6 = .ptr cid 0 0 → e 8 = .sc (.int .i64 i) → IsCache S cid mid n (idF 0 n) →
      Tru (fin [.tmp 4] (exec A (.loop tm [] f4_l0) (st 86 e (fun _ => none) S) ks)) := by
  intro m
  induction m with
  | zero =>
    intro i e S tm hn htm h0 h1 h5 h6 h8 hC
    rw [exec_loop]
    generalize hkk : Kn.loop tm [] f4_l0 :: ks = kk
    subst htm
    have hlt : ¬ (i : Int) < more % 8 := by omega
    simp [f4_l0, put_apply, h0, h1, h8, hlt]
    rw [← hkk]; simp
    exact hk _ _ (by simp [put_apply, h0]) (by simp [put_apply, h5]) (by simp [put_apply, h6]) hC
  | succ m ih =>
    intro i e S tm hn htm h0 h1 h5 h6 h8 hC
    rw [exec_loop]
    generalize hkk : Kn.loop tm [] f4_l0 :: ks = kk
    subst htm
    have hlt : (i : Int) < more % 8 := by omega
    have w1 : IntKind.i64.wrap (97 + (i : Int)) = 97 + (i : Int) := w64 (by omega)
    have w2 : IntKind.u8.wrap (97 + (i : Int)) = 97 + (i : Int) := by
      have : IntKind.u8.wrap (97 + (i : Int)) = (97 + (i : Int)) % 256 := by simp [IntKind.wrap, IntKind.signed, IntKind.bits]
      rw [this]; omega
    have hb : pev .bytesStr [.lst 1 true [[.sc (.int .u8 (97 + (i : Int)))]]] = some (.sc (.string (byteS i))) := by
      rw [pev_byte1]; unfold byteS; congr 5
    have w4 : IntKind.i64.wrap ((i : Int) + 1) = ((i + 1 : Nat) : Int) := w64 (by omega)
    have hadd : pev (.bin .add) [.sc (.string ⟨#[109, 111, 114, 101]⟩), (.sc (.string (byteS i)))] = some (.sc (.string (moreS i))) := by rw [pev_sadd (by simp [ByteArray.size, byteS])]; rfl
    obtain ⟨n', rfl⟩ : ∃ n', n = n' + 1 := ⟨n - 1, by omega⟩
    have hs : seenC ((n' + 1 : Nat) : Int) (idF 0 (n' + 1)) (moreS i) 100 0 = (10, idF 0 (n' + 1)) := by
      simp only [seenC]
      rw [if_neg (by omega), idF_live (by omega), idF_more (by show (5 : Nat) ≠ 3; omega)]
      simp only [idF_len]
      rw [if_pos (by omega)]
    have hl0 : lookC (idS 0) (idF 0 (n' + 1)) = some 100 := by rw [idF_cons]; simp [lookC]
    have hs2 : seenC ((n' + 1 : Nat) : Int) (idF 0 (n' + 1)) ⟨#[105, 100, 97]⟩ 100 99 = (9, idF 0 (n' + 1)) := by
      show seenC _ _ (idS 0) 100 99 = _
      simp only [seenC]
      rw [if_neg (by omega), idF_live (by omega), hl0]
      show (9, setC (idS 0) 100 _) = _
      rw [set_same hl0]
    have hC' := hC.setM (idF 0 (n' + 1)) 1
    have hC2 := hC.setM (idF 0 (n' + 1)) 2
    have e1 := seen_spec hA.toHasR hC (id := moreS i) (t := 100) (now := 0)
    have e2 := seen_spec hA.toHasR hC' (id := ⟨#[105, 100, 97]⟩) (t := 100) (now := 99)
    rw [hs] at e1
    rw [hs2] at e2
    simp [f4_l0, put_apply, h0, h1, h5, h6, h8, hlt, w1, w2, w4, fillR, hb, hadd, e1, e2, setM_setM]
    rw [← hkk, unw_loop]
    exact ih (i + 1) _ _ _ (by omega) rfl (by simp [put_apply, h0]) (by simp [put_apply, h1]) (by simp [put_apply, h5]) (by simp [put_apply, h6]) (by simp [put_apply]) hC2

theorem full_law (hA : HasR4 A) {S : AS} (hn : S.ro ≤ S.n) (room more : Int) : Tru (docall A (run A) 4 [.sc (.int .i64 room), .sc (.int .i64 more)] S) := by
  obtain ⟨S1, hs, r1, n1⟩ := shown_spec hA.toHasR0 hn
  have hR := hA.toHasR
  have hpos : 0 ≤ room % 65536 := by omega
  have ht : (room % 65536).tmod 20 = room % 65536 % 20 := Int.tmod_eq_emod_of_nonneg hpos
  obtain ⟨N, hn'⟩ : ∃ N : Nat, 1 + room % 65536 % 20 = (N : Int) := ⟨(1 + room % 65536 % 20).toNat, by omega⟩
  obtain ⟨n', hNn⟩ : ∃ n', N = n' + 1 := ⟨N - 1, by omega⟩
  have h20 : N ≤ 20 := by omega
  obtain ⟨k, hk⟩ : ∃ k : Nat, more % 8 = (k : Int) := ⟨(more % 8).toNat, by omega⟩
  have w1 : IntKind.i64.wrap ((N : Int)) = (N : Int) := w64 (by omega)
  have h0 : IsCache (newR S1 (N : Int)) (S1.n + 1) S1.n (N : Int) (idF 0 0) := by
    have := newR_C (S := S1) (room := (N : Int)) (by omega)
    rw [show max ((N : Int)) 0 = (N : Int) by omega] at this
    exact this
  rw [docall_keep hA.n4.1 hA.n4.2.1 hA.n4.2.2 (by simp) (by show 2 ≤ 86; omega)]
  simp only [f4]
  simp [f4b, put_apply, hs, new_spec hR, pev_rem, ht, hn', w1]
  have hcons : idF 0 N = (idS 0, 100) :: idF 1 n' := by rw [hNn, idF_cons]
  have hlate : lookC lateS (idF 0 N) = none := idF_more (by show (4 : Nat) ≠ 3; omega)
  have q1 : seenC (N : Int) (idF 0 N) lateS 300 99 = (10, idF 0 N) := by
    simp only [seenC]
    rw [if_neg (by omega), idF_live (by omega), hlate]
    simp only [idF_len]
    rw [if_pos (by omega)]
  have hl1 : liveC 100 (idF 0 N) = idF 1 n' := by
    rw [hcons]
    show liveC 100 ((idS 0, 100) :: idF 1 n') = _
    rw [show liveC 100 ((idS 0, 100) :: idF 1 n') = liveC 100 (idF 1 n') from rfl, idF_live (by omega)]
  have hlate1 : lookC lateS (idF 1 n') = none := look_none fun p hp hh => by
    obtain ⟨i, _, _, rfl⟩ := idF_mem hp
    have : (idS i).size = lateS.size := congrArg ByteArray.size hh
    exact absurd this (by show ¬ (3 : Nat) = 4; omega)
  have q2 : seenC (N : Int) (idF 0 N) lateS 300 100 = (0, idF 1 n' ++ [(lateS, 300)]) := by
    simp only [seenC]
    rw [if_neg (by omega), hl1, hlate1]
    simp only [idF_len]
    rw [if_neg (by omega), set_new hlate1]
  have hl2 : (idF 1 n' ++ [(lateS, (300 : Int))]).length = N := by simp [idF_len, hNn]
  have hl3 : liveC 300 (idF 1 n' ++ [(lateS, 300)]) = [] := live_none fun p hp => by
    rcases List.mem_append.1 hp with hp | hp
    · obtain ⟨i, _, _, rfl⟩ := idF_mem hp
      show 100 + (i : Int) ≤ 300; omega
    · simp at hp; subst hp; show (300 : Int) ≤ 300; omega
  refine full_loop1 hA (n := N) (more := .sc (.int .i64 more)) (cid := S1.n + 1) (mid := S1.n) h20 ?_ N 0 _ _ _ (by omega) rfl (by simp [put_apply]) (by simp [put_apply]) (by simp [put_apply]) (by simp [put_apply]) (by simp [put_apply]) h0
  intro e S e0 e1 e5 e6 hC
  simp [put_apply]
  refine full_loop0 hA (n := N) (k := k) (more := more) h20 (by omega) hk ?_ k 0 _ _ _ (by omega) rfl (by simp [put_apply, e0]) (by simp [put_apply, e1]) (by simp [put_apply, e5]) (by simp [put_apply, e6]) (by simp [put_apply]) hC
  intro e S e0 e5 e6 hC
  have hC1 := hC.setM (idF 0 N) 1
  have hC2 := hC.setM (idF 1 n' ++ [(lateS, 300)]) 2
  have hC3 := hC.setM [] 3
  have s1 := seen_spec hR hC (id := lateS) (t := 300) (now := 99)
  have s2 := seen_spec hR hC1 (id := lateS) (t := 300) (now := 100)
  rw [q1] at s1
  rw [q2] at s2
  have s3 := prune_spec hR hC2 (now := 300)
  rw [hl3, hl2] at s3
  have s4 := len_spec hR hC2
  rw [hl2] at s4
  have s5 := len_spec hR hC3
  have wN : IntKind.i64.wrap (N : Int) = N := w64 (by omega)
  unfold lateS at s1 s2 s3 s4
  simp [put_apply, e0, e5, e6, len_spec hR hC, idF_len, s1, s2, s3, s4, s5, setM_setM, wN, retRs, retR]

end
end Abs

namespace Abs
open Go

structure HasR3 (A : AProg) : Prop extends HasR0 A where
  n3 : A.ext 3 = none ∧ A.funcs 3 = some f3 ∧ A.mode 3 = .keep

section
variable {A : AProg}

/- what becomes of an entry that is met again -/
def hitP (id : ByteArray) (now : Int) (p : ByteArray × Int) : Bool := decide (p.1 = id) && decide (now < p.2)
def updP (id : ByteArray) (now till : Int) (p : ByteArray × Int) : ByteArray × Int := if hitP id now p then (p.1, max p.2 till) else p

def idsR (P : List (ByteArray × Int)) : List (List AV) := P.map fun p => [.sc (.string p.1)]
def endsR (P : List (ByteArray × Int)) : List (List AV) := P.map fun p => [.sc (.int .i64 p.2)]

structure Tabs (S : AS) (ia ea : Nat) (cid mid : Nat) (P : List (ByteArray × Int)) (l : List (ByteArray × Int)) : Prop where
  i : IsSl S ia 1 (idsR P)
  e : IsSl S ea 1 (endsR P)
  c : IsCache S cid mid 60 l
  n1 : ia ≠ ea
  n2 : ia ≠ cid
  n3 : ia ≠ mid
  n4 : ea ≠ cid
  n5 : ea ≠ mid

theorem Tabs.store {S : AS} {ia ea cid mid : Nat} {P P' l : List (ByteArray × Int)} (h : Tabs S ia ea cid mid P l) (hi : idsR P' = idsR P) : Tabs (S.set ea (some (.rows 1 (endsR P')))) ia ea cid mid P' l where
  i := ⟨by simp only [AS.set, if_neg h.n1]; rw [hi]; exact h.i.h, h.i.ro, h.i.lt⟩
  e := ⟨by simp [AS.set], h.e.ro, h.e.lt⟩
  c := ⟨by simp only [AS.set, if_neg (Ne.symm h.n4)]; exact h.c.c, by simp only [AS.set, if_neg (Ne.symm h.n5)]; exact h.c.m, h.c.ro, h.c.ltc, h.c.ltm⟩
  n1 := h.n1
  n2 := h.n2
  n3 := h.n3
  n4 := h.n4
  n5 := h.n5

theorem once_inner {id : ByteArray} {now till : Int} {ia ea cid mid : Nat} {l : List (ByteArray × Int)} {ks : List Kn} {E : Nat → AV} :
    ∀ (R D : List (ByteArray × Int)) (kept : Bool) (e : Nat → AV) (S : AS) (tm : List Nat), D.length + R.length ≤ 50 → tm = [58, 59, 60, 61, 62, 63, 64, 65, 66, 67, 68, 69, 70, 71, 72, 73, 74, 75, 76, 77, 78, 79, 80, 81, 82, 83, 84, 85, 86] →
      (∀ j, j < 14 → j ≠ 11 → j ≠ 12 → e j = E j) → E 5 = .sc (.int .i64 now) → E 6 = .arr ia 1 0 (D.length + R.length) none → E 7 = .arr ea 1 0 (D.length + R.length) none → E 9 = .sc (.int .i64 till) → E 10 = .sc (.string id) → e 11 = .sc (.bool kept) → e 12 = .sc (.int .i64 D.length) →
      Tabs S ia ea cid mid (D ++ R) l →
      (∀ e' S', (∀ j, j < 14 → j ≠ 11 → j ≠ 12 → e' j = E j) → e' 11 = .sc (.bool (kept || R.any (hitP id now))) → Tabs S' ia ea cid mid (D ++ R.map (updP id now till)) l → S'.n = S.n → S'.ro = S.ro → Tru (fin [.tmp 2] (unw A (some (.exit 2, st 104 e' (fun _ => none) S')) ks))) →
      Tru (fin [.tmp 2] (exec A (.loop tm [] f3_l0) (st 104 e (fun _ => none) S) ks)) := by
  intro R
  induction R with
  | nil =>
    intro D kept e S tm hl htm hE h5 h6 h7 h9 h10 h11 h12 hT hk
    rw [exec_loop]
    generalize hkk : Kn.loop tm [] f3_l0 :: ks = kk
    subst htm
    have e6 : e 6 = .arr ia 1 0 (D.length + 0) none := by rw [hE 6 (by omega) (by omega) (by omega)]; exact h6
    simp [f3_l0, put_apply, e6, h12]
    rw [← hkk]; simp
    refine hk _ _ ?_ (by simp [put_apply, h11]) (by simpa using hT) rfl rfl
    intro j hj h1 h2
    simp only [put_apply]
    repeat rw [if_neg (by omega)]
    rw [fgt_apply, if_neg]
    · exact hE j hj h1 h2
    · simp; omega
  | cons p R ih =>
    intro D kept e S tm hl htm hE h5 h6 h7 h9 h10 h11 h12 hT hk
    rw [exec_loop]
    generalize hkk : Kn.loop tm [] f3_l0 :: ks = kk
    have e5 := hE 5 (by omega) (by omega) (by omega)
    have e6 := hE 6 (by omega) (by omega) (by omega)
    have e7 := hE 7 (by omega) (by omega) (by omega)
    have e9 := hE 9 (by omega) (by omega) (by omega)
    have e10 := hE 10 (by omega) (by omega) (by omega)
    rw [h5] at e5
    rw [h6] at e6
    rw [h7] at e7
    rw [h9] at e9
    rw [h10] at e10
    simp only [List.length_cons] at hl
    have hlt : (D.length : Int) < ((D.length + (R.length + 1) : Nat) : Int) := by omega
    have w1 : IntKind.i64.wrap ((D.length : Int) + 1) = ((D.length : Int) + 1) := w64 (by omega)
    have ha1 : pev (.iaddr 1) [.arr ia 1 0 (D.length + (R.length + 1)) none, .sc (.int .i64 D.length)] = some (.ptr ia D.length 0) := by
      rw [pev_iaddrA (by omega) hlt]; simp
    have ha2 : pev (.iaddr 1) [.arr ea 1 0 (D.length + (R.length + 1)) none, .sc (.int .i64 D.length)] = some (.ptr ea D.length 0) := by
      rw [pev_iaddrA (by omega) hlt]; simp
    have hg1 : (idsR (D ++ p :: R))[D.length]? = some [.sc (.string p.1)] := by simp [idsR]
    have hg2 : (endsR (D ++ p :: R))[D.length]? = some [.sc (.int .i64 p.2)] := by simp [endsR]
    have hlt' : (D.length : Int) < (D.length : Int) + ((R.length : Int) + 1) := by omega
    have fin' : ∀ (p' : ByteArray × Int) (b : Bool) (e' : Nat → AV) (S' : AS), p' = updP id now till p → (kept || hitP id now p) = b → (∀ j, j < 14 → j ≠ 11 → j ≠ 12 → e' j = E j) → e' 11 = .sc (.bool b) → e' 12 = .sc (.int .i64 ((D.length : Int) + 1)) → Tabs S' ia ea cid mid (D ++ p' :: R) l → S'.n = S.n → S'.ro = S.ro →
        Tru (fin [.tmp 2] (unw A (some (.normal, st 104 e' (fun _ => none) S')) kk)) := by
      intro p' b e' S' hp' hb hE' h11' h12' hT' hn hro
      rw [← hkk, unw_loop]
      refine ih (D ++ [p']) b e' S' tm (by simp; omega) htm hE' h5 (by rw [h6]; simp; omega) (by rw [h7]; simp; omega) h9 h10 h11' (by rw [h12']; simp) (by simpa using hT') ?_
      intro e2 S2 q1 q2 q3 q4 q5
      refine hk e2 S2 q1 ?_ ?_ (q4.trans hn) (q5.trans hro)
      · rw [q2, ← hb]; simp [Bool.or_assoc]
      · rw [hp'] at q3; simpa using q3
    have keep : ∀ {j : Nat}, j < 14 → j ≠ 11 → j ≠ 12 → fgt tm e j = E j := by
      intro j hj h1 h2
      rw [fgt_apply, if_neg]
      · exact hE j hj h1 h2
      · subst htm; simp; omega
    by_cases hh1 : p.1 = id
    · by_cases hh2 : now < p.2
      · have hhit : hitP id now p = true := by simp [hitP, hh1, hh2]
        have hT' := hT.store (P' := D ++ (id, max p.2 till) :: R) (by simp [idsR, hh1])
        have hst : ∀ {d rg}, opev (.st none 1) d rg S [.ptr ea D.length 0, .sc (.int .i64 (max p.2 till))] = some (.junk, none, S.set ea (some (.rows 1 (endsR (D ++ (id, max p.2 till) :: R))))) := by
          intro d rg
          simp only [opev, hT.e.ro, cells_sc, List.all_cons, isCell_sc, List.all_nil, Bool.and_self, List.length_singleton, and_self, if_true, hT.e.h, hg2, Option.bind_some]
          simp [setCells, endsR]
        simp [f3_l0, put_apply, htm, e5, e6, e7, e9, e10, h11, h12, hlt, hlt', ha1, ha2, opev_ld_ptr hT.i.h, opev_ld_ptr hT.e.h, hg1, hg2, hh1, hh2, hst, w1]
        rw [← htm]
        refine fin' (id, max p.2 till) true _ _ (by simp [updP, hhit, hh1]) (by simp [hhit]) ?_ (by simp [put_apply]) (by simp [put_apply]) hT' rfl rfl
        intro j hj h1 h2
        simp only [put_apply]
        repeat rw [if_neg (by omega)]
        exact keep hj h1 h2
      · have hhit : hitP id now p = false := by simp [hitP, hh2]
        simp [f3_l0, put_apply, htm, e5, e6, e7, e9, e10, h11, h12, hlt, hlt', ha1, ha2, opev_ld_ptr hT.i.h, opev_ld_ptr hT.e.h, hg1, hg2, hh1, hh2, w1]
        rw [← htm]
        refine fin' p kept _ _ (by simp [updP, hhit]) (by simp [hhit]) ?_ (by simp [put_apply, htm, h11]) (by simp [put_apply]) hT rfl rfl
        intro j hj h1 h2
        simp only [put_apply]
        repeat rw [if_neg (by omega)]
        exact keep hj h1 h2
    · have hhit : hitP id now p = false := by simp [hitP, hh1]
      simp [f3_l0, put_apply, htm, e5, e6, e7, e9, e10, h11, h12, hlt, hlt', ha1, ha2, opev_ld_ptr hT.i.h, opev_ld_ptr hT.e.h, hg1, hg2, hh1, w1]
      rw [← htm]
      refine fin' p kept _ _ (by simp [updP, hhit]) (by simp [hhit]) ?_ (by simp [put_apply, htm, h11]) (by simp [put_apply]) hT rfl rfl
      intro j hj h1 h2
      simp only [put_apply]
      repeat rw [if_neg (by omega)]
      exact keep hj h1 h2


/- the plain law -/
structure Rel (P l : List (ByteArray × Int)) (last : Int) : Prop where
  eq : liveC last l = liveC last P
  nd : ((liveC last P).map (·.1)).Nodup

theorem live_live {a b : Int} (h : a ≤ b) {l : List (ByteArray × Int)} : liveC b (liveC a l) = liveC b l := by
  unfold liveC
  rw [List.filter_filter]
  congr 1; funext p
  by_cases hp : b < p.2
  · simp [hp]; omega
  · simp [hp]
theorem Rel.later {P l : List (ByteArray × Int)} {a b : Int} (h : Rel P l a) (hab : a ≤ b) : Rel P l b := by
  refine ⟨?_, ?_⟩
  · rw [← live_live hab, h.eq, live_live hab]
  · rw [← live_live hab]
    exact ((List.filter_sublist).map _).nodup h.nd

theorem look_any {id : ByteArray} {now : Int} : ∀ {P : List (ByteArray × Int)}, (lookC id (liveC now P)).isSome = P.any (hitP id now)
  | [] => rfl
  | p :: P => by
    have ih := @look_any id now P
    unfold liveC at ih ⊢
    by_cases h2 : now < p.2
    · by_cases h1 : p.1 = id
      · simp [List.filter_cons, h2, lookC, h1, hitP]
      · simp only [List.filter_cons, h2, decide_true, if_true, lookC, h1, if_false, List.any_cons, hitP, decide_false, Bool.false_and, Bool.false_or]
        exact ih
    · simp only [List.filter_cons, h2, decide_false, Bool.false_eq_true, if_false, List.any_cons, hitP, Bool.and_false, Bool.false_or]
      exact ih

theorem upd_none {id : ByteArray} {now till : Int} {P : List (ByteArray × Int)} (h : P.any (hitP id now) = false) : P.map (updP id now till) = P := by
  rw [List.any_eq_false] at h
  have : P.map (updP id now till) = P.map (fun p => p) := by
    apply List.map_congr_left
    intro p hp
    have := h p hp
    simp only [Bool.not_eq_true] at this
    simp [updP, this]
  rw [this]; simp

theorem live_upd_other {id : ByteArray} {now till : Int} (hn : now < till) : ∀ {P : List (ByteArray × Int)}, id ∉ (liveC now P).map (·.1) → liveC now (P.map (updP id now till)) = liveC now P
  | [], _ => rfl
  | p :: P, h => by
    unfold liveC at h ⊢
    by_cases h2 : now < p.2
    · simp only [List.filter_cons, h2, decide_true, if_true, List.map_cons, List.mem_cons, not_or] at h
      have hu : updP id now till p = p := by simp [updP, hitP, Ne.symm h.1]
      have := live_upd_other hn (P := P) h.2
      unfold liveC at this
      simp only [List.map_cons, hu, List.filter_cons, h2, decide_true, if_true, this]
    · simp only [List.filter_cons, h2, decide_false, Bool.false_eq_true, if_false] at h
      have hu : updP id now till p = p := by simp [updP, hitP, h2]
      have := live_upd_other hn (P := P) h
      unfold liveC at this
      simp only [List.map_cons, hu, List.filter_cons, h2, decide_false, Bool.false_eq_true, if_false, this]

theorem live_upd {id : ByteArray} {now till old : Int} (hn : now < till) : ∀ {P : List (ByteArray × Int)}, ((liveC now P).map (·.1)).Nodup → lookC id (liveC now P) = some old → liveC now (P.map (updP id now till)) = setC id (max old till) (liveC now P)
  | [], _, h => by cases h
  | p :: P, hd, h => by
    by_cases h2 : now < p.2
    · have e1 : liveC now (p :: P) = p :: liveC now P := by simp [liveC, h2]
      rw [e1] at hd h ⊢
      simp only [List.map_cons, List.nodup_cons] at hd
      by_cases h1 : p.1 = id
      · simp only [lookC, h1, if_true, Option.some.injEq] at h
        have hu : updP id now till p = (id, max old till) := by
          have : hitP id now p = true := by simp [hitP, h1, h2]
          simp only [updP, this, if_true, h1, h]
        have h3 : now < max old till := by omega
        rw [List.map_cons, hu]
        have : liveC now ((id, max old till) :: P.map (updP id now till)) = (id, max old till) :: liveC now (P.map (updP id now till)) := by simp [liveC, h3]
        rw [this, live_upd_other hn (by rw [← h1]; exact hd.1)]
        simp [setC, h1]
      · simp only [lookC, h1, if_false] at h
        have hu : updP id now till p = p := by simp [updP, hitP, h1]
        rw [List.map_cons, hu]
        have : liveC now (p :: P.map (updP id now till)) = p :: liveC now (P.map (updP id now till)) := by simp [liveC, h2]
        rw [this, live_upd hn hd.2 h]
        simp [setC, h1]
    · have e1 : liveC now (p :: P) = liveC now P := by simp [liveC, h2]
      rw [e1] at hd h ⊢
      have hu : updP id now till p = p := by simp [updP, hitP, h2]
      rw [List.map_cons, hu]
      have : liveC now (p :: P.map (updP id now till)) = liveC now (P.map (updP id now till)) := by simp [liveC, h2]
      rw [this, live_upd hn hd h]

theorem set_keys {id : ByteArray} {v old : Int} : ∀ {l : List (ByteArray × Int)}, lookC id l = some old → (setC id v l).map (·.1) = l.map (·.1)
  | [], h => by cases h
  | p :: l, h => by
    by_cases h1 : p.1 = id
    · simp [setC, h1]
    · simp only [lookC, h1, if_false] at h
      simp [setC, h1, set_keys h]
theorem look_mem {id : ByteArray} : ∀ {l : List (ByteArray × Int)}, lookC id l = none → id ∉ l.map (·.1)
  | [], _ => by simp
  | p :: l, h => by
    by_cases h1 : p.1 = id
    · simp [lookC, h1] at h
    · simp only [lookC, h1, if_false] at h
      simp only [List.map_cons, List.mem_cons, not_or]
      exact ⟨Ne.symm h1, look_mem h⟩

theorem once_step {P l : List (ByteArray × Int)} {last now till : Int} {id : ByteArray} (h : Rel P l last) (h1 : last ≤ now) (h2 : now < till) (h3 : P.length < 60) :
    (seenC 60 l id till now).1 = (if P.any (hitP id now) then 9 else 0) ∧ Rel (if P.any (hitP id now) then P.map (updP id now till) else P ++ [(id, till)]) (seenC 60 l id till now).2 now := by
  have hr := h.later h1
  have hlen : (liveC now P).length ≤ P.length := live_len
  unfold seenC
  rw [if_neg (by omega), hr.eq]
  cases hl : lookC id (liveC now P) with
  | some old =>
    have ha : P.any (hitP id now) = true := by rw [← look_any, hl]; rfl
    rw [if_pos ha, if_pos ha]
    have hu := live_upd h2 hr.nd hl
    refine ⟨rfl, ?_, ?_⟩
    · show liveC now (setC id (max old till) (liveC now P)) = _
      rw [← hu, live_live (Int.le_refl _)]
    · rw [hu, set_keys hl]; exact hr.nd
  | none =>
    have ha : P.any (hitP id now) = false := by rw [← look_any, hl]; rfl
    simp only [ha, Bool.false_eq_true, if_false]
    rw [if_neg (by omega), set_new hl]
    have e1 : liveC now (P ++ [(id, till)]) = liveC now P ++ [(id, till)] := by simp [liveC, h2]
    refine ⟨rfl, ?_, ?_⟩
    · show liveC now (liveC now P ++ [(id, till)]) = _
      rw [← e1, live_live (Int.le_refl _)]
    · rw [e1, List.map_append, List.nodup_append]
      refine ⟨hr.nd, by simp, ?_⟩
      intro a ha' b hb
      simp at hb; subst hb
      rintro rfl
      exact look_mem hl ha'


/- the tables: none yet, or both -/
inductive Has (S : AS) (cid mid : Nat) (P l : List (ByteArray × Int)) : AV → AV → Prop
  | none (hP : P = []) (hC : IsCache S cid mid 60 l) : Has S cid mid P l (.lst 0 true []) (.lst 0 true [])
  | some {ia ea : Nat} (hP : P ≠ []) (hT : Tabs S ia ea cid mid P l) : Has S cid mid P l (.arr ia 1 0 P.length none) (.arr ea 1 0 P.length none)

theorem IsCache.step {S S' : AS} {cid mid : Nat} {room : Int} {l : List (ByteArray × Int)} (h : IsCache S cid mid room l) (hc : S'.heap cid = S.heap cid) (hm : S'.heap mid = S.heap mid) (hr : S'.ro = S.ro) (hn : S.n ≤ S'.n) : IsCache S' cid mid room l :=
  ⟨by rw [hc]; exact h.c, by rw [hm]; exact h.m, by rw [hr]; exact h.ro, Nat.lt_of_lt_of_le h.ltc hn, Nat.lt_of_lt_of_le h.ltm hn⟩

theorem Tabs.setM {S : AS} {ia ea cid mid : Nat} {P l : List (ByteArray × Int)} (h : Tabs S ia ea cid mid P l) (l' : List (ByteArray × Int)) (k : Nat) : Tabs (setM S mid l' k) ia ea cid mid P l' where
  i := ⟨by show (if ia = mid then _ else _) = _; rw [if_neg h.n3]; exact h.i.h, h.i.ro, Nat.lt_of_lt_of_le h.i.lt (Nat.le_add_right _ _)⟩
  e := ⟨by show (if ea = mid then _ else _) = _; rw [if_neg h.n5]; exact h.e.h, h.e.ro, Nat.lt_of_lt_of_le h.e.lt (Nat.le_add_right _ _)⟩
  c := h.c.setM l' k
  n1 := h.n1
  n2 := h.n2
  n3 := h.n3
  n4 := h.n4
  n5 := h.n5

def app2 (S : AS) (ia ea : Nat) (P : List (ByteArray × Int)) (id : ByteArray) (till : Int) : AS :=
  (((S.set ia none).new (.rows 1 (idsR P ++ [[.sc (.string id)]]))).set ea none).new (.rows 1 (endsR P ++ [[.sc (.int .i64 till)]]))
def app0 (S : AS) (id : ByteArray) (till : Int) : AS := (S.new (.rows 1 [[.sc (.string id)]])).new (.rows 1 [[.sc (.int .i64 till)]])

theorem Tabs.app2 {S : AS} {ia ea cid mid : Nat} {P l : List (ByteArray × Int)} (h : Tabs S ia ea cid mid P l) (id : ByteArray) (till : Int) : Tabs (app2 S ia ea P id till) S.n (S.n + 1) cid mid (P ++ [(id, till)]) l := by
  have a1 := h.i.lt
  have a2 := h.e.lt
  have a3 := h.c.ltc
  have a4 := h.c.ltm
  have a5 := h.i.ro
  have a6 := h.e.ro
  refine ⟨⟨?_, ?_, ?_⟩, ⟨?_, ?_, ?_⟩, ?_, by omega, by omega, by omega, by omega, by omega⟩
  · show (if S.n = S.n + 1 then _ else if S.n = ea then _ else if S.n = S.n then _ else _) = _
    rw [if_neg (by omega), if_neg (by omega), if_pos rfl]; simp [idsR]
  · show S.ro ≤ S.n; omega
  · show S.n < S.n + 2; omega
  · show (if S.n + 1 = S.n + 1 then _ else _) = _
    rw [if_pos rfl]; simp [endsR]
  · show S.ro ≤ S.n + 1; omega
  · show S.n + 1 < S.n + 2; omega
  · refine h.c.step ?_ ?_ rfl (by show S.n ≤ S.n + 2; omega)
    · show (if cid = S.n + 1 then _ else if cid = ea then _ else if cid = S.n then _ else if cid = ia then _ else _) = _
      rw [if_neg (by omega), if_neg (Ne.symm h.n4), if_neg (by omega), if_neg (Ne.symm h.n2)]
    · show (if mid = S.n + 1 then _ else if mid = ea then _ else if mid = S.n then _ else if mid = ia then _ else _) = _
      rw [if_neg (by omega), if_neg (Ne.symm h.n5), if_neg (by omega), if_neg (Ne.symm h.n3)]
theorem tabs_app0 {S : AS} {cid mid : Nat} {l : List (ByteArray × Int)} (h : IsCache S cid mid 60 l) (hro : S.ro ≤ S.n) (id : ByteArray) (till : Int) : Tabs (app0 S id till) S.n (S.n + 1) cid mid ([] ++ [(id, till)]) l := by
  have a3 := h.ltc
  have a4 := h.ltm
  refine ⟨⟨?_, ?_, ?_⟩, ⟨?_, ?_, ?_⟩, ?_, by omega, by omega, by omega, by omega, by omega⟩
  · show (if S.n = S.n + 1 then _ else if S.n = S.n then _ else _) = _
    rw [if_neg (by omega), if_pos rfl]; rfl
  · show S.ro ≤ S.n; omega
  · show S.n < S.n + 2; omega
  · show (if S.n + 1 = S.n + 1 then _ else _) = _
    rw [if_pos rfl]; rfl
  · show S.ro ≤ S.n + 1; omega
  · show S.n + 1 < S.n + 2; omega
  · refine h.step ?_ ?_ rfl (by show S.n ≤ S.n + 2; omega)
    · show (if cid = S.n + 1 then _ else if cid = S.n then _ else _) = _
      rw [if_neg (by omega), if_neg (by omega)]
    · show (if mid = S.n + 1 then _ else if mid = S.n then _ else _) = _
      rw [if_neg (by omega), if_neg (by omega)]

set_option maxRecDepth 20000 in
theorem once_loop (hA : HasR3 A) {L : List Stp} {ks : List Kn} {cid mid : Nat} (hL : L.length ≤ maxLen)
    (hk : ∀ e S, e 3 = .sc (.bool true) → Tru (fin [.tmp 2] (unw A (some (.exit 0, st 104 e (fun _ => none) S)) ks))) :
    ∀ (n i : Nat) (e : Nat → AV) (S : AS) (P l : List (ByteArray × Int)) (last : Int) (tm : List Nat), n + i = min L.length 50 → tm = [2, 9, 10, 11, 12, 13, 18, 19, 20, 21, 22, 23, 24, 25, 26, 27, 28, 29, 30, 31, 32, 33, 34, 35, 36, 37, 38, 39, 40, 41, 42, 43, 44, 45, 46, 47, 48, 49, 50, 51, 52, 53, 54, 55, 56, 57, 58, 59, 60, 61, 62, 63, 64, 65, 66, 67, 68, 69, 70, 71, 72, 73, 74, 75, 76, 77, 78, 79, 80, 81, 82, 83, 84, 85, 86, 87, 88, 89, 90, 91, 92, 93, 94, 95, 96, 97, 98, 99, 100, 101, 102] →
      e 0 = stpA L → e 3 = .sc (.bool true) → e 4 = .ptr cid 0 0 → e 5 = .sc (.int .i64 last) → Has S cid mid P l (e 6) (e 7) → e 8 = .sc (.int .i64 i) → S.ro ≤ S.n → P.length ≤ i → 0 ≤ last → last ≤ 15 * i → Rel P l last →
      Tru (fin [.tmp 2] (exec A (.loop tm [] f3_l1) (st 104 e (fun _ => none) S) ks)) := by
  intro n
  induction n with
  | zero =>
    intro i e S P l last tm hn htm h0 h3 h4 h5 hH h8 hro hP hl0 hl1 hR
    rw [exec_loop]
    generalize hkk : Kn.loop tm [] f3_l1 :: ks = kk
    by_cases hc : (i : Int) < L.length
    · have hi : ¬ (i : Int) < 50 := by omega
      simp [f3_l1, put_apply, htm, h0, h3, h4, h5, h8, stpA, hc, hi]
      rw [← hkk]; simp
      exact hk _ _ (by simp [put_apply, h3])
    · simp [f3_l1, put_apply, htm, h0, h3, h4, h5, h8, stpA, hc]
      rw [← hkk]; simp
      exact hk _ _ (by simp [put_apply, h3])
  | succ n ih =>
    intro i e S P l last tm hn htm h0 h3 h4 h5 hH h8 hro hP hl0 hl1 hR
    rw [exec_loop]
    generalize hkk : Kn.loop tm [] f3_l1 :: ks = kk
    have hc : (i : Int) < L.length := by omega
    have hi : (i : Int) < 50 := by omega
    have hlt : i < L.length := by omega
    obtain ⟨s, hs⟩ : ∃ s, L[i]? = some s := ⟨L[i], by simp [hlt]⟩
    have w1 : IntKind.i64.wrap ((i : Int) + 1) = ((i + 1 : Nat) : Int) := w64 (by omega)
    have w2 : IntKind.i64.wrap (last + s.now % 16) = last + s.now % 16 := w64 (by omega)
    have w3 : IntKind.i64.wrap (last + s.now % 16 + 1) = last + s.now % 16 + 1 := w64 (by omega)
    have w4 : IntKind.i64.wrap (last + s.now % 16 + 1 + s.till % 64) = last + s.now % 16 + 1 + s.till % 64 := w64 (by omega)
    generalize hnow : last + s.now % 16 = now at w2 w3 w4
    generalize htill : now + 1 + s.till % 64 = till at w4
    generalize hid : cutS s.id 20 = id
    have hnl : last ≤ now := by omega
    have hnt : now < till := by omega
    have hRS := hA.toHasR
    obtain ⟨st1, st2⟩ := once_step (id := id) hR hnl hnt (by omega)
    have nle : ¬ till ≤ now := by omega
    generalize h6 : e 6 = v6 at hH
    generalize h7 : e 7 = v7 at hH
    cases hH with
    | none hPe hC =>
      subst hPe
      have hT := (tabs_app0 hC hro id till).setM (seenC 60 l id till now).2 1
      have sp := seen_spec hRS (tabs_app0 hC hro id till).c (id := id) (t := till) (now := now)
      simp only [List.any_nil, Bool.false_eq_true, if_false] at st1 st2
      rw [st1, if_neg nle] at sp
      simp [f3_l1, put_apply, htm, h0, h3, h4, h5, h6, h7, h8, stpA, hc, hi, hs, Stp.row, w1, w2, w3, w4, hnow, htill, hid]
      rw [exec_loop]
      generalize hk2 : Kn.loop [58, 59, 60, 61, 62, 63, 64, 65, 66, 67, 68, 69, 70, 71, 72, 73, 74, 75, 76, 77, 78, 79, 80, 81, 82, 83, 84, 85, 86] [] f3_l0 :: _ = kk2
      simp [f3_l0, put_apply, htm, h6]
      rw [← hk2]
      have o1 : opev (.append 1 16) (some 91) (fun _ => none) S [.lst 0 true [], .lst 1 true [[.sc (.string id)]]] = some (.arr S.n 1 0 1 none, none, S.new (.rows 1 [[.sc (.string id)]])) := opev_appNil (by simp) (by simp)
      have o2 : opev (.append 1 8) (some 95) (fun _ => none) (S.new (.rows 1 [[.sc (.string id)]])) [.lst 0 true [], .lst 1 true [[.sc (.int .i64 till)]]] = some (.arr (S.n + 1) 1 0 1 none, none, app0 S id till) := opev_appNil (by simp) (by simp)
      simp [put_apply, htm, h3, h4, h6, h7, h8, fillR, o1, o2, sp, w1]
      rw [← hkk, unw_loop]
      exact ih (i + 1) _ _ ([] ++ [(id, till)]) (seenC 60 l id till now).2 now tm (by omega) htm (by simp [put_apply, htm, h0]) (by simp [put_apply, htm, h3]) (by simp [put_apply, htm, h4]) (by simp [put_apply, htm]) (by
          have := Has.some (by simp) hT
          simpa [put_apply, htm] using this) (by simp [put_apply]) (by show S.ro ≤ S.n + 2 + 1; omega) (by simp) (by omega) (by omega) st2
    | some hPne hT =>
      rename_i ia ea
      simp [f3_l1, put_apply, htm, h0, h3, h4, h5, h6, h7, h8, stpA, hc, hi, hs, Stp.row, w1, w2, w3, w4, hnow, htill, hid]
      refine once_inner (id := id) (now := now) (till := till) (ia := ia) (ea := ea) (cid := cid) (mid := mid) (l := l) P [] false _ S _ (by simp; omega) rfl (fun j _ _ _ => rfl) (by simp [put_apply, htm]) (by simp [put_apply, htm, h6]) (by simp [put_apply, htm, h7]) (by simp [put_apply, htm]) (by simp [put_apply, htm]) (by simp [put_apply, htm]) (by simp [put_apply, htm]) (by simpa using hT) ?_
      intro e2 S2 q1 q2 q3 q4 q5
      simp only [List.nil_append] at q3
      have g0 : e2 0 = stpA L := by rw [q1 0 (by omega) (by omega) (by omega)]; simp [put_apply, htm, h0]
      have g3 : e2 3 = .sc (.bool true) := by rw [q1 3 (by omega) (by omega) (by omega)]; simp [put_apply, htm, h3]
      have g4 : e2 4 = .ptr cid 0 0 := by rw [q1 4 (by omega) (by omega) (by omega)]; simp [put_apply, htm, h4]
      have g5 : e2 5 = .sc (.int .i64 now) := by rw [q1 5 (by omega) (by omega) (by omega)]; simp [put_apply, htm]
      have g6 : e2 6 = .arr ia 1 0 P.length none := by rw [q1 6 (by omega) (by omega) (by omega)]; simp [put_apply, htm, h6]
      have g7 : e2 7 = .arr ea 1 0 P.length none := by rw [q1 7 (by omega) (by omega) (by omega)]; simp [put_apply, htm, h7]
      have g8 : e2 8 = .sc (.int .i64 i) := by rw [q1 8 (by omega) (by omega) (by omega)]; simp [put_apply, htm, h8]
      have g9 : e2 9 = .sc (.int .i64 till) := by rw [q1 9 (by omega) (by omega) (by omega)]; simp [put_apply, htm]
      have g10 : e2 10 = .sc (.string id) := by rw [q1 10 (by omega) (by omega) (by omega)]; simp [put_apply, htm]
      cases hkept : P.any (hitP id now) with
      | true =>
        rw [hkept] at q2 st1 st2
        simp only [if_true] at st1 st2
        have sp := seen_spec hRS q3.c (id := id) (t := till) (now := now)
        rw [st1, if_neg nle] at sp
        have hT2 := q3.setM (seenC 60 l id till now).2 1
        simp [put_apply, q2, g3, g4, g5, g6, g7, g8, g9, g10, sp, w1]
        rw [← hkk, unw_loop]
        exact ih (i + 1) _ _ (P.map (updP id now till)) (seenC 60 l id till now).2 now tm (by omega) htm (by simp [put_apply, g0]) (by simp [put_apply, g3]) (by simp [put_apply, g4]) (by simp [put_apply, g5]) (by
          have := Has.some (by simpa using hPne) hT2
          simpa [put_apply, g6, g7] using this) (by simp [put_apply]) (by show S2.ro ≤ S2.n + 1; omega) (by simp; omega) (by omega) (by omega) st2
      | false =>
        rw [hkept] at q2 st1 st2
        simp only [Bool.false_eq_true, if_false] at st1 st2
        rw [upd_none hkept] at q3
        have hT1 := q3.app2 id till
        have sp := seen_spec hRS hT1.c (id := id) (t := till) (now := now)
        rw [st1, if_neg nle] at sp
        have hT2 := hT1.setM (seenC 60 l id till now).2 1
        have o1 : opev (.append 1 16) (some 91) (fun _ => none) S2 [.arr ia 1 0 P.length none, .lst 1 true [[.sc (.string id)]]] = some (.arr S2.n 1 0 (P.length + 1) none, none, (S2.set ia none).new (.rows 1 (idsR P ++ [[.sc (.string id)]]))) := by
          have := opev_app (d := some 91) (rg := fun _ => none) (bytes := 16) q3.i (ys := [[.sc (.string id)]]) (by simp) (by simp [idsR]; omega)
          simpa [idsR] using this
        have hie : IsSl ((S2.set ia none).new (.rows 1 (idsR P ++ [[.sc (.string id)]]))) ea 1 (endsR P) := ⟨by
          show (if ea = S2.n then _ else if ea = ia then _ else _) = _
          rw [if_neg (by have := q3.e.lt; omega), if_neg (Ne.symm q3.n1)]; exact q3.e.h, q3.e.ro, Nat.lt_succ_of_lt q3.e.lt⟩
        have o2 : opev (.append 1 8) (some 95) (fun _ => none) ((S2.set ia none).new (.rows 1 (idsR P ++ [[.sc (.string id)]]))) [.arr ea 1 0 P.length none, .lst 1 true [[.sc (.int .i64 till)]]] = some (.arr (S2.n + 1) 1 0 (P.length + 1) none, none, app2 S2 ia ea P id till) := by
          have := opev_app (d := some 95) (rg := fun _ => none) (bytes := 8) hie (ys := [[.sc (.int .i64 till)]]) (by simp) (by simp [endsR]; omega)
          rw [show (endsR P).length = P.length by simp [endsR]] at this
          exact this
        simp [put_apply, q2, g3, g4, g5, g6, g7, g8, g9, g10, fillR, o1, o2, sp, w1]
        rw [← hkk, unw_loop]
        exact ih (i + 1) _ _ (P ++ [(id, till)]) (seenC 60 l id till now).2 now tm (by omega) htm (by simp [put_apply, g0]) (by simp [put_apply, g3]) (by simp [put_apply, g4]) (by simp [put_apply, g5]) (by
          have := Has.some (by simp) hT2
          simpa [put_apply, g6, g7] using this) (by simp [put_apply]) (by show S2.ro ≤ S2.n + 2 + 1; omega) (by simp; omega) (by omega) (by omega) st2

theorem once_law (hA : HasR3 A) {S : AS} (hn : S.ro ≤ S.n) (L : List Stp) (hL : L.length ≤ maxLen) : Tru (docall A (run A) 3 [stpA L] S) := by
  obtain ⟨S1, hs, r1, n1⟩ := shown_spec hA.toHasR0 hn
  have hR := hA.toHasR
  have h0 : IsCache (newR S1 60) (S1.n + 1) S1.n 60 [] := newR_C (room := 60) (by omega)
  rw [docall_keep hA.n3.1 hA.n3.2.1 hA.n3.2.2 (by simp [stpA]) (by show 1 ≤ 104; omega)]
  simp [f3, f3b, put_apply, hs, new_spec hR]
  refine once_loop hA (L := L) (cid := S1.n + 1) (mid := S1.n) hL ?_ (min L.length 50) 0 _ _ [] [] 0 _ (by omega) rfl (by simp [put_apply]) (by simp [put_apply]) (by simp [put_apply]) (by simp [put_apply]) (by simpa [put_apply] using Has.none rfl h0) (by simp [put_apply]) (by show S1.ro ≤ S1.n + 2; omega) (by simp) (by omega) (by omega) ⟨rfl, by simp [liveC]⟩
  intro e S h3
  simp [put_apply, h3, retRs, retR]

end
end Abs

namespace Abs
open Go

structure HasR2 (A : AProg) : Prop extends HasR0 A where
  n58 : A.ext 58 = some allG

theorem less_lt : ∀ {a b : List UInt8}, Go.Op.bytesLess a b = decide (a < b)
  | [], [] => by simp [Go.Op.bytesLess]
  | [], b :: bs => by simp [Go.Op.bytesLess]
  | a :: as, [] => by simp [Go.Op.bytesLess]
  | a :: as, b :: bs => by
    have ih := @less_lt as bs
    simp only [Go.Op.bytesLess, ih, List.cons_lt_cons_iff]
    by_cases h1 : a < b
    · simp [h1]
    · by_cases h2 : a = b
      · subst h2; simp
      · simp [h1, h2]

theorem ba_data {x y : ByteArray} (h : x.data.toList = y.data.toList) : x = y := by
  obtain ⟨⟨x⟩⟩ := x
  obtain ⟨⟨y⟩⟩ := y
  simp at h; rw [h]
theorem sLt_iff {x y : ByteArray} : sLt x y = decide (x.data.toList < y.data.toList) := by
  unfold sLt
  show Go.Op.bytesLess _ _ = _
  rw [less_lt, ByteArray.toList_eq, ByteArray.toList_eq]

/- what is in order, and the same, is what is sorted -/
theorem sortB_eq {l l' : List ByteArray} (h : l'.Perm l) (hs : l'.Pairwise fun a b => a.data.toList ≤ b.data.toList) : sortB l = l' := by
  have hm : (l.map fun s => s.data.toList).mergeSort (fun x y => decide (x ≤ y)) = l'.map fun s => s.data.toList := by
    have tr : ∀ a b c : List UInt8, decide (a ≤ b) = true → decide (b ≤ c) = true → decide (a ≤ c) = true := fun a b c h1 h2 => by simp only [decide_eq_true_eq] at *; exact List.le_trans h1 h2
    have to : ∀ a b : List UInt8, (decide (a ≤ b) || decide (b ≤ a)) = true := fun a b => by simp only [Bool.or_eq_true, decide_eq_true_eq]; exact List.le_total a b
    refine List.Perm.eq_of_pairwise (le := fun a b => decide (a ≤ b) = true) (fun a b _ _ h1 h2 => ?_) (List.pairwise_mergeSort tr to _) ?_ ((List.mergeSort_perm _ _).trans (h.symm.map _))
    · simp only [decide_eq_true_eq] at h1 h2; exact List.le_antisymm h1 h2
    · rw [List.pairwise_map]
      exact hs.imp fun h => by simpa using h
  unfold sortB
  rw [hm, List.map_map]
  have : ((fun x : List UInt8 => (⟨x.toArray⟩ : ByteArray)) ∘ fun s : ByteArray => s.data.toList) = id := by
    funext s; rfl
  rw [this, List.map_id]

section
variable {A : AProg} {S : AS} {cid mid : Nat} {room : Int} {l : List (ByteArray × Int)}

theorem allG_C (h : IsCache S cid mid room l) (hl : l.length * 16 ≤ 140737488355328) : allG [.ptr cid 0 0] S = allOf S (l.map (·.1)) := by
  have hg : (esC l).all (fun e => isStr e.1 && (match e.2 with | .sc _ => true | _ => false)) = true := by
    rw [List.all_eq_true]
    intro e he
    obtain ⟨p, _, rfl⟩ := List.mem_map.1 he
    rfl
  have hk : (esC l).map (fun e => keyB e.1) = l.map (·.1) := by
    unfold esC; rw [List.map_map]; rfl
  have hlen : (esC l).length = l.length := by simp [esC]
  simp only [allG, h.c, List.getElem?_cons_zero, h.m]
  rw [if_pos ⟨h.ro, hg, by rw [hlen]; exact hl⟩, hk]

/- the list in the heap -/
def allS (S : AS) (ks : List ByteArray) : AS :=
  if ks = [] then { S with n := S.n + 1 } else { S with heap := fun j => if j = S.n + ks.length then some (.rows 1 (strR (sortB ks))) else S.heap j, n := S.n + ks.length + 1 }
def allV (S : AS) (ks : List ByteArray) : AV := if ks = [] then .lst 0 true [] else .arr (S.n + ks.length) 1 0 ks.length none

theorem all_spec (hA : HasR2 A) (h : IsCache S cid mid room l) (hl : l.length * 16 ≤ 140737488355328) : docall A (run A) 58 [.ptr cid 0 0] S = some (allV S (l.map (·.1)), allS S (l.map (·.1))) := by
  rw [docall_ext hA.n58 rfl, allG_C h hl]
  unfold allOf allV allS
  split <;> rfl

theorem allS_n {ks : List ByteArray} : S.n ≤ (allS S ks).n := by
  unfold allS; split
  · exact Nat.le_succ _
  · show S.n ≤ S.n + _ + 1; omega
theorem allS_ro {ks : List ByteArray} : (allS S ks).ro = S.ro := by unfold allS; split <;> rfl
theorem allS_heap {ks : List ByteArray} {j : Nat} (hj : j < S.n) : (allS S ks).heap j = S.heap j := by
  unfold allS; split
  · rfl
  · exact if_neg (by omega)
theorem IsCache.allS (h : IsCache S cid mid room l) (ks : List ByteArray) : IsCache (Abs.allS S ks) cid mid room l :=
  h.step (allS_heap h.ltc) (allS_heap h.ltm) allS_ro allS_n
@[simp] theorem allV_len {ks : List ByteArray} : pev .lenL [allV S ks] = some (.sc (.int .i64 ks.length)) := by
  unfold allV; split
  · rename_i h; rw [h]; rfl
  · rfl
@[simp] theorem allV_reg {ks : List ByteArray} : (allV S ks).isReg = false := by unfold allV; split <;> rfl
theorem allV_at {ks : List ByteArray} {i : Nat} (hi : i < ks.length) : pev (.iaddr 1) [allV S ks, .sc (.int .i64 i)] = some (.ptr (S.n + ks.length) i 0) := by
  unfold allV
  rw [if_neg (by rintro rfl; simp at hi), pev_iaddrA (by omega) (by omega)]
  simp
/- the list is there still -/
structure IsAll (S : AS) (n : Nat) (ks : List ByteArray) : Prop where
  h : ks ≠ [] → S.heap (n + ks.length) = some (.rows 1 (strR (sortB ks)))
  lt : n + ks.length < S.n
theorem isAll_allS {ks : List ByteArray} : IsAll (allS S ks) S.n ks where
  h := fun hk => by unfold allS; rw [if_neg hk]; exact if_pos rfl
  lt := by
    unfold allS; split
    · rename_i h; rw [h]; exact Nat.lt_succ_self _
    · show S.n + ks.length < S.n + ks.length + 1; omega
theorem IsAll.ld {n i : Nat} {ks : List ByteArray} {d : Option Nat} {rg : Nat → Option (List AV)} (h : IsAll S n ks) (hi : i < ks.length) : opev (.ld none 1 false) d rg S [.ptr (n + ks.length) i 0] = some (.sc (.string ((sortB ks)[i]'(by rw [sortB_len]; exact hi))), none, S) := by
  rw [opev_ld_ptr (h.h (by rintro rfl; simp at hi))]
  have hs : i < (sortB ks).length := by rw [sortB_len]; exact hi
  simp [strR, hs]


theorem all_list {ks : List ByteArray} : ∃ N, (∀ i, i < ks.length → pev (.iaddr 1) [allV S ks, .sc (.int .i64 (i : Int))] = some (.ptr N i 0)) ∧ ∀ i x d rg, (sortB ks)[i]? = some x → opev (.ld none 1 false) d rg (allS S ks) [.ptr N i 0] = some (.sc (.string x), none, allS S ks) := by
  refine ⟨S.n + ks.length, fun i hi => allV_at hi, fun i x d rg hx => ?_⟩
  have hi : i < ks.length := by
    have := (List.getElem?_eq_some_iff.1 hx).1
    rwa [sortB_len] at this
  rw [isAll_allS.ld hi]
  obtain ⟨_, h2⟩ := List.getElem?_eq_some_iff.1 hx
  rw [h2]

theorem pev_smin {x y : ByteArray} : pev .min [.sc (.string x), .sc (.string y)] = some (.sc (.string (if sLt x y || x.toList == y.toList then x else y))) := rfl
theorem pev_smax {x y : ByteArray} : pev .max [.sc (.string x), .sc (.string y)] = some (.sc (.string (if !sLt x y then x else y))) := rfl

structure HasR11 (A : AProg) : Prop extends HasR2 A where
  n11 : A.ext 11 = none ∧ A.funcs 11 = some f11 ∧ A.mode 11 = .keep

theorem names_law (hA : HasR11 A) {S : AS} (hn : S.ro ≤ S.n) (a b : ByteArray) : Tru (docall A (run A) 11 [.sc (.string a), .sc (.string b)] S) := by
  obtain ⟨S1, hs, r1, n1⟩ := shown_spec hA.toHasR0 hn
  have hR := hA.toHasR
  have h0 : IsCache (newR S1 2) (S1.n + 1) S1.n 2 [] := newR_C (room := 2) (by omega)
  have h1 := h0.setM [(a, 9)] 1
  have e1 : seenC 2 [] a 9 1 = (0, [(a, 9)]) := by simp [seenC, liveC, lookC, setC]
  have s1 := seen_spec hR h0 (id := a) (t := 9) (now := 1)
  rw [e1] at s1
  by_cases hab : a = b
  · subst hab
    have e2 : seenC 2 [(a, 9)] a 9 1 = (9, [(a, 9)]) := by simp [seenC, liveC, lookC, setC]
    have h2 := h0.setM [(a, 9)] 2
    have s2 := seen_spec hR h1 (id := a) (t := 9) (now := 1)
    rw [e2] at s2
    have s3 := all_spec hA.toHasR2 h2 (by simp)
    simp only [List.map_cons, List.map_nil] at s3
    have hso : sortB [a] = [a] := sortB_eq (List.Perm.refl _) (by simp)
    obtain ⟨N, hat, hld⟩ := all_list (S := setM (newR S1 2) S1.n [(a, 9)] 2) (ks := [a])
    have hat := hat 0 (by simp)
    have hld := fun d rg => hld 0 a d rg (by rw [hso]; rfl)
    simp only [Int.natCast_zero] at hat
    rw [docall_keep hA.n11.1 hA.n11.2.1 hA.n11.2.2 (by simp) (by show 2 ≤ 78; omega)]
    simp [f11, f11b, put_apply, retRs, retR, hs, new_spec hR, s1, s2, s3, setM_setM, hat, hld]
  · have hba : ¬ a = b := hab
    have e2 : seenC 2 [(a, 9)] b 9 1 = (0, [(a, 9), (b, 9)]) := by simp [seenC, liveC, lookC, setC, hab]
    have h2 := h0.setM [(a, 9), (b, 9)] 2
    have s2 := seen_spec hR h1 (id := b) (t := 9) (now := 1)
    rw [e2] at s2
    have s3 := all_spec hA.toHasR2 h2 (by simp)
    simp only [List.map_cons, List.map_nil] at s3
    have hne : a.data.toList ≠ b.data.toList := fun h => hab (ba_data h)
    have heq : (a.toList == b.toList) = false := by rw [ba_toList, decide_eq_false hab]
    obtain ⟨N, hat, hld⟩ := all_list (S := setM (newR S1 2) S1.n [(a, 9), (b, 9)] 2) (ks := [a, b])
    have hat0 := hat 0 (by simp)
    have hat1 := hat 1 (by simp)
    simp only [Int.natCast_zero, Int.natCast_one] at hat0 hat1
    by_cases hlt : a.data.toList < b.data.toList
    · have hso : sortB [a, b] = [a, b] := sortB_eq (List.Perm.refl _) (by simp; exact List.le_of_lt hlt)
      have hld0 := fun d rg => hld 0 a d rg (by rw [hso]; rfl)
      have hld1 := fun d rg => hld 1 b d rg (by rw [hso]; rfl)
      have hsl : sLt a b = true := by rw [sLt_iff, decide_eq_true hlt]
      rw [docall_keep hA.n11.1 hA.n11.2.1 hA.n11.2.2 (by simp) (by show 2 ≤ 78; omega)]
      simp [f11, f11b, put_apply, retRs, retR, hs, new_spec hR, s1, s2, s3, setM_setM, hat0, hat1, hld0, hld1, hab, pev_smin, pev_smax, hsl]
    · have hle : b.data.toList ≤ a.data.toList := List.not_lt.1 hlt
      have hso : sortB [a, b] = [b, a] := sortB_eq (List.Perm.swap _ _ _) (by simp; exact hle)
      have hld0 := fun d rg => hld 0 b d rg (by rw [hso]; rfl)
      have hld1 := fun d rg => hld 1 a d rg (by rw [hso]; rfl)
      have hsl : sLt a b = false := by rw [sLt_iff, decide_eq_false hlt]
      rw [docall_keep hA.n11.1 hA.n11.2.1 hA.n11.2.2 (by simp) (by show 2 ≤ 78; omega)]
      simp [f11, f11b, put_apply, retRs, retR, hs, new_spec hR, s1, s2, s3, setM_setM, hat0, hat1, hld0, hld1, hab, pev_smin, pev_smax, hsl, heq]

end
end Abs

namespace Abs
open Go

structure HasR8 (A : AProg) : Prop extends HasR2 A where
  n8 : A.ext 8 = none ∧ A.funcs 8 = some f8 ∧ A.mode 8 = .keep
structure HasR10 (A : AProg) : Prop extends HasR2 A where
  n10 : A.ext 10 = none ∧ A.funcs 10 = some f10 ∧ A.mode 10 = .keep

def Below63 (l : List (ByteArray × Int)) : Prop := ∀ p ∈ l, p.2 ≤ 9223372036854775807

theorem below_set {id : ByteArray} {v : Int} (hv : v ≤ 9223372036854775807) : ∀ {l : List (ByteArray × Int)}, Below63 l → Below63 (setC id v l)
  | [], _ => by intro p hp; simp [setC] at hp; subst hp; exact hv
  | q :: l, h => by
    intro p hp
    simp only [setC] at hp
    split at hp
    · rcases List.mem_cons.1 hp with rfl | hp
      · exact hv
      · exact h p (by simp [hp])
    · rcases List.mem_cons.1 hp with rfl | hp
      · exact h p (by simp)
      · exact below_set hv (fun q hq => h q (by simp [hq])) p hp
theorem below_seen {room : Int} {l : List (ByteArray × Int)} {id : ByteArray} {t now : Int} (ht : t ≤ 9223372036854775807) (h : Below63 l) : Below63 (seenC room l id t now).2 := by
  have hl : Below63 (liveC now l) := fun p hp => h p (List.mem_filter.1 hp).1
  unfold seenC
  split
  · exact h
  · split
    · rename_i old hold
      refine below_set ?_ hl
      have : ∀ {l : List (ByteArray × Int)} {o : Int}, Below63 l → lookC id l = some o → o ≤ 9223372036854775807 := by
        intro l
        induction l with
        | nil => intro o _ h; cases h
        | cons p l ih =>
          intro o hb ho
          simp only [lookC] at ho
          split at ho
          · cases ho; exact hb p (by simp)
          · exact ih (fun q hq => hb q (by simp [hq])) ho
      have := this hl hold
      omega
    · split
      · exact hl
      · exact below_set ht hl

section
variable {A : AProg}

theorem over_loop (hA : HasR8 A) {L : List Stp} {room : AV} {r : Int} {ks : List Kn} {cid mid : Nat} (hL : L.length ≤ maxLen) (hb : ∀ s ∈ L, s.till ≤ 9223372036854775807)
    (hk : ∀ e S l, e 0 = room → e 5 = .sc (.bool true) → e 6 = .ptr cid 0 0 → IsCache S cid mid r l → l.length ≤ 50 → Below63 l → Tru (fin [.tmp 4] (unw A (some (.exit 0, st 87 e (fun _ => none) S)) ks))) :
    ∀ (n i : Nat) (e : Nat → AV) (S : AS) (l : List (ByteArray × Int)) (tm : List Nat), n + i = min L.length 50 → tm = [17, 18, 19, 20, 21, 22, 23, 24, 25, 26, 27, 28, 29, 30, 31, 32, 33, 34, 35, 36, 37, 38, 39, 40, 41, 42, 43, 44, 45, 46, 47, 48, 49, 50, 51] →
      e 0 = room → e 1 = stpA L → e 5 = .sc (.bool true) → e 6 = .ptr cid 0 0 → e 7 = .sc (.int .i64 i) → IsCache S cid mid r l → l.length ≤ i → Below63 l →
      Tru (fin [.tmp 4] (exec A (.loop tm [] f8_l0) (st 87 e (fun _ => none) S) ks)) := by
  intro n
  induction n with
  | zero =>
    intro i e S l tm hn htm h0 h1 h5 h6 h7 hC hl hB
    rw [exec_loop]
    generalize hkk : Kn.loop tm [] f8_l0 :: ks = kk
    by_cases hc : (i : Int) < L.length
    · have hi : ¬ (i : Int) < 50 := by omega
      simp [f8_l0, put_apply, htm, h1, h7, stpA, hc, hi]
      rw [← hkk]; simp
      exact hk _ _ _ (by simp [put_apply, h0]) (by simp [put_apply, h5]) (by simp [put_apply, h6]) hC (by omega) hB
    · simp [f8_l0, put_apply, htm, h1, h7, stpA, hc]
      rw [← hkk]; simp
      exact hk _ _ _ (by simp [put_apply, h0]) (by simp [put_apply, h5]) (by simp [put_apply, h6]) hC (by omega) hB
  | succ n ih =>
    intro i e S l tm hn htm h0 h1 h5 h6 h7 hC hl hB
    rw [exec_loop]
    generalize hkk : Kn.loop tm [] f8_l0 :: ks = kk
    have hc : (i : Int) < L.length := by omega
    have hi : (i : Int) < 50 := by omega
    have hlt : i < L.length := by omega
    obtain ⟨s, hs⟩ : ∃ s, L[i]? = some s := ⟨L[i], by simp [hlt]⟩
    have w1 : IntKind.i64.wrap ((i : Int) + 1) = ((i + 1 : Nat) : Int) := w64 (by omega)
    have hR := hA.toHasR
    generalize hown : cutS s.id 20 = own
    have k1 := @seen_len r l own s.till s.now
    have hB' := below_seen (room := r) (id := own) (now := s.now) (hb s (List.mem_of_getElem? hs)) hB
    by_cases ht : s.till ≤ s.now
    · simp [f8_l0, put_apply, htm, h1, h6, h7, stpA, hc, hi, hs, Stp.row, hown, seen_spec hR hC, ht, w1]
      rw [← hkk, unw_loop]
      exact ih (i + 1) _ _ l tm (by omega) htm (by simp [put_apply, htm, h0]) (by simp [put_apply, htm, h1]) (by simp [put_apply, htm, h5]) (by simp [put_apply, htm, h6]) (by simp [put_apply]) hC (by omega) hB
    · simp [f8_l0, put_apply, htm, h1, h6, h7, stpA, hc, hi, hs, Stp.row, hown, seen_spec hR hC, ht, w1]
      rw [← hkk, unw_loop]
      exact ih (i + 1) _ _ _ tm (by omega) htm (by simp [put_apply, htm, h0]) (by simp [put_apply, htm, h1]) (by simp [put_apply, htm, h5]) (by simp [put_apply, htm, h6]) (by simp [put_apply]) (hC.setM _ 1) (by omega) hB'

theorem over_law (hA : HasR8 A) {S : AS} (hn : S.ro ≤ S.n) (room : Int) (L : List Stp) (hL : L.length ≤ maxLen) (hb : ∀ s ∈ L, s.till ≤ 9223372036854775807) : Tru (docall A (run A) 8 [.sc (.int .i64 room), stpA L] S) := by
  obtain ⟨S1, hs, r1, n1⟩ := shown_spec hA.toHasR0 hn
  have hR := hA.toHasR
  have h0 : IsCache (newR S1 (room % 64)) (S1.n + 1) S1.n (room % 64) [] := by
    have := newR_C (S := S1) (room := room % 64) (by omega)
    rw [show max (room % 64) 0 = room % 64 by omega] at this
    exact this
  rw [docall_keep hA.n8.1 hA.n8.2.1 hA.n8.2.2 (by simp [stpA]) (by show 2 ≤ 87; omega)]
  simp only [f8]
  simp [f8b, put_apply, hs, new_spec hR]
  refine over_loop hA (L := L) (room := .sc (.int .i64 room)) (r := room % 64) (cid := S1.n + 1) (mid := S1.n) hL hb ?_ (min L.length 50) 0 _ _ [] _ (by omega) rfl (by simp [put_apply]) (by simp [put_apply]) (by simp [put_apply]) (by simp [put_apply]) (by simp [put_apply]) h0 (by simp) (fun _ h => by cases h)
  intro e S l e0 e5 e6 hC hl hB
  have hC1 := hC.allS (l.map (·.1))
  have a1 := all_spec hA.toHasR2 hC (by omega)
  have hz : liveC 9223372036854775807 l = [] := live_none hB
  have p1 := prune_spec hR hC1 (now := 9223372036854775807)
  rw [hz] at p1
  have hC2 := hC1.setM [] 1
  have l1 := len_spec hR hC
  have l2 := len_spec hR hC2
  have a2 := all_spec hA.toHasR2 hC2 (by simp)
  have hC3 := hC2.allS (([] : List (ByteArray × Int)).map (·.1))
  have s1 := seen_spec hR hC3 (id := ⟨#[120]⟩) (t := 5) (now := 4)
  simp only [List.map_nil] at s1
  have wl : IntKind.i64.wrap (l.length : Int) = l.length := w64 (by omega)
  by_cases hr : room % 64 = 0
  · have e1 : seenC 0 [] ⟨#[120]⟩ 5 4 = (10, []) := by decide
    rw [hr, e1] at s1
    simp [put_apply, e0, e5, e6, a1, p1, l1, l2, a2, s1, wl, hr, retRs, retR]
  · have e1 : seenC (room % 64) [] ⟨#[120]⟩ 5 4 = (0, [(⟨#[120]⟩, 5)]) := by
      simp [seenC, liveC, lookC, setC]; omega
    rw [e1] at s1
    simp [put_apply, e0, e5, e6, a1, p1, l1, l2, a2, s1, wl, hr, retRs, retR]


theorem late_loop (hA : HasR10 A) {L : List Stp} {v2 v3 v4 : AV} {r : Int} {ks : List Kn} {cid mid : Nat} (hL : L.length ≤ maxLen)
    (hk : ∀ e S l, e 2 = v2 → e 3 = v3 → e 4 = v4 → e 11 = .sc (.bool true) → e 12 = .ptr cid 0 0 → IsCache S cid mid r l → l.length ≤ 50 → Tru (fin [.tmp 10] (unw A (some (.exit 0, st 102 e (fun _ => none) S)) ks))) :
    ∀ (n i : Nat) (e : Nat → AV) (S : AS) (l : List (ByteArray × Int)) (tm : List Nat), n + i = min L.length 30 → tm = [24, 25, 26, 27, 28, 29, 30, 31, 32, 33, 34, 35, 36, 37, 38, 39, 40, 41, 42, 43, 44, 45, 46, 47, 48, 49, 50, 51, 52, 53, 54, 55, 56, 57, 58] →
      e 1 = stpA L → e 2 = v2 → e 3 = v3 → e 4 = v4 → e 11 = .sc (.bool true) → e 12 = .ptr cid 0 0 → e 13 = .sc (.int .i64 i) → IsCache S cid mid r l → l.length ≤ i →
      Tru (fin [.tmp 10] (exec A (.loop tm [] f10_l1) (st 102 e (fun _ => none) S) ks)) := by
  intro n
  induction n with
  | zero =>
    intro i e S l tm hn htm h1 h2 h3 h4 h11 h12 h13 hC hl
    rw [exec_loop]
    generalize hkk : Kn.loop tm [] f10_l1 :: ks = kk
    by_cases hc : (i : Int) < L.length
    · have hi : ¬ (i : Int) < 30 := by omega
      simp [f10_l1, put_apply, htm, h1, h13, stpA, hc, hi]
      rw [← hkk]; simp
      exact hk _ _ _ (by simp [put_apply, h2]) (by simp [put_apply, h3]) (by simp [put_apply, h4]) (by simp [put_apply, h11]) (by simp [put_apply, h12]) hC (by omega)
    · simp [f10_l1, put_apply, htm, h1, h13, stpA, hc]
      rw [← hkk]; simp
      exact hk _ _ _ (by simp [put_apply, h2]) (by simp [put_apply, h3]) (by simp [put_apply, h4]) (by simp [put_apply, h11]) (by simp [put_apply, h12]) hC (by omega)
  | succ n ih =>
    intro i e S l tm hn htm h1 h2 h3 h4 h11 h12 h13 hC hl
    rw [exec_loop]
    generalize hkk : Kn.loop tm [] f10_l1 :: ks = kk
    have hc : (i : Int) < L.length := by omega
    have hi : (i : Int) < 30 := by omega
    have hlt : i < L.length := by omega
    obtain ⟨s, hs⟩ : ∃ s, L[i]? = some s := ⟨L[i], by simp [hlt]⟩
    have w1 : IntKind.i64.wrap ((i : Int) + 1) = ((i + 1 : Nat) : Int) := w64 (by omega)
    have hR := hA.toHasR
    generalize hown : cutS s.id 20 = own
    have k1 := @seen_len r l own s.till s.now
    by_cases ht : s.till ≤ s.now
    · simp [f10_l1, put_apply, htm, h1, h12, h13, stpA, hc, hi, hs, Stp.row, hown, seen_spec hR hC, ht, w1]
      rw [← hkk, unw_loop]
      exact ih (i + 1) _ _ l tm (by omega) htm (by simp [put_apply, htm, h1]) (by simp [put_apply, htm, h2]) (by simp [put_apply, htm, h3]) (by simp [put_apply, htm, h4]) (by simp [put_apply, htm, h11]) (by simp [put_apply, htm, h12]) (by simp [put_apply]) hC (by omega)
    · simp [f10_l1, put_apply, htm, h1, h12, h13, stpA, hc, hi, hs, Stp.row, hown, seen_spec hR hC, ht, w1]
      rw [← hkk, unw_loop]
      exact ih (i + 1) _ _ _ tm (by omega) htm (by simp [put_apply, htm, h1]) (by simp [put_apply, htm, h2]) (by simp [put_apply, htm, h3]) (by simp [put_apply, htm, h4]) (by simp [put_apply, htm, h11]) (by simp [put_apply, htm, h12]) (by simp [put_apply]) (hC.setM _ 1) (by omega)

theorem all_ld {S : AS} {n : Nat} {ks : List ByteArray} (h : IsAll S n ks) (i : Nat) (x : ByteArray) (d : Option Nat) (rg : Nat → Option (List AV)) (hx : (sortB ks)[i]? = some x) : opev (.ld none 1 false) d rg S [.ptr (n + ks.length) i 0] = some (.sc (.string x), none, S) := by
  have hi : i < ks.length := by
    have := (List.getElem?_eq_some_iff.1 hx).1
    rwa [sortB_len] at this
  rw [h.ld hi]
  obtain ⟨_, h2⟩ := List.getElem?_eq_some_iff.1 hx
  rw [h2]
theorem IsAll.later {S S' : AS} {n : Nat} {ks : List ByteArray} (h : IsAll S n ks) (hh : ∀ j, j < S.n → S'.heap j = S.heap j) (hn : S.n ≤ S'.n) : IsAll S' n ks :=
  ⟨fun hk => by rw [hh _ h.lt]; exact h.h hk, Nat.lt_of_lt_of_le h.lt hn⟩

/- two lists that are alike -/
theorem late_cmp {ks : List Kn} {was all : AV} {S : AS} {xs : List ByteArray} {N M : Nat} (hx : xs.length ≤ 1000)
    (l1 : pev .lenL [was] = some (.sc (.int .i64 xs.length)))
    (a1 : ∀ i, i < xs.length → pev (.iaddr 1) [was, .sc (.int .i64 (i : Int))] = some (.ptr N i 0)) (a2 : ∀ i, i < xs.length → pev (.iaddr 1) [all, .sc (.int .i64 (i : Int))] = some (.ptr M i 0))
    (d1 : ∀ i x d rg, xs[i]? = some x → opev (.ld none 1 false) d rg S [.ptr N i 0] = some (.sc (.string x), none, S)) (d2 : ∀ i x d rg, xs[i]? = some x → opev (.ld none 1 false) d rg S [.ptr M i 0] = some (.sc (.string x), none, S))
    (hk : ∀ e, e 11 = .sc (.bool true) → Tru (fin [.tmp 10] (unw A (some (.exit 2, st 102 e (fun _ => none) S)) ks))) :
    ∀ (n i : Nat) (e : Nat → AV) (tm : List Nat), n + i = xs.length → tm = [10, 86, 87, 88, 89, 90, 91, 92, 93, 94, 95, 96, 97, 98, 99, 100] → e 11 = .sc (.bool true) → e 14 = was → e 16 = all → e 17 = .sc (.int .i64 i) →
      Tru (fin [.tmp 10] (exec A (.loop tm [] f10_l0) (st 102 e (fun _ => none) S) ks)) := by
  intro n
  induction n with
  | zero =>
    intro i e tm hn htm h11 h14 h16 h17
    rw [exec_loop]
    generalize hkk : Kn.loop tm [] f10_l0 :: ks = kk
    have hc : ¬ (i : Int) < xs.length := by omega
    simp [f10_l0, put_apply, htm, h14, h16, h17, l1, hc]
    rw [← hkk]; simp
    exact hk _ (by simp [put_apply, h11])
  | succ n ih =>
    intro i e tm hn htm h11 h14 h16 h17
    rw [exec_loop]
    generalize hkk : Kn.loop tm [] f10_l0 :: ks = kk
    have hc : (i : Int) < xs.length := by omega
    have hlt : i < xs.length := by omega
    obtain ⟨x, hxi⟩ : ∃ x, xs[i]? = some x := ⟨xs[i], by simp [hlt]⟩
    have w1 : IntKind.i64.wrap ((i : Int) + 1) = ((i + 1 : Nat) : Int) := w64 (by omega)
    simp [f10_l0, put_apply, htm, h14, h16, h17, l1, hc, a1 i hlt, a2 i hlt, d1 i x _ _ hxi, d2 i x _ _ hxi, w1]
    rw [← hkk, unw_loop]
    exact ih (i + 1) _ tm (by omega) htm (by simp [put_apply, htm, h11]) (by simp [put_apply, htm, h14]) (by simp [put_apply, htm, h16]) (by simp [put_apply])

theorem late_law (hA : HasR10 A) {S : AS} (hn : S.ro ≤ S.n) (room : Int) (L : List Stp) (hL : L.length ≤ maxLen) (id : ByteArray) (now back : Int) : Tru (docall A (run A) 10 [.sc (.int .i64 room), stpA L, .sc (.string id), .sc (.int .i64 now), .sc (.int .i64 back)] S) := by
  obtain ⟨S1, hs, r1, n1⟩ := shown_spec hA.toHasR0 hn
  have hR := hA.toHasR
  have h0 : IsCache (newR S1 (room % 32)) (S1.n + 1) S1.n (room % 32) [] := by
    have := newR_C (S := S1) (room := room % 32) (by omega)
    rw [show max (room % 32) 0 = room % 32 by omega] at this
    exact this
  rw [docall_keep hA.n10.1 hA.n10.2.1 hA.n10.2.2 (by simp [stpA]) (by show 5 ≤ 102; omega)]
  simp only [f10]
  simp [f10b, put_apply, hs, new_spec hR]
  refine late_loop hA (L := L) (v2 := .sc (.string id)) (v3 := .sc (.int .i64 now)) (v4 := .sc (.int .i64 back)) (r := room % 32) (cid := S1.n + 1) (mid := S1.n) hL ?_ (min L.length 30) 0 _ _ [] _ (by omega) rfl (by simp [put_apply]) (by simp [put_apply]) (by simp [put_apply]) (by simp [put_apply]) (by simp [put_apply]) (by simp [put_apply]) (by simp [put_apply]) h0 (by simp)
  intro e S l e2 e3 e4 e11 e12 hC hl
  generalize hks : l.map (·.1) = kys
  have hkl : kys.length ≤ 50 := by rw [← hks]; simpa using hl
  have hC1 := hC.allS kys
  have a1 := all_spec hA.toHasR2 hC (by omega)
  rw [hks] at a1
  have w1 : IntKind.i64.wrap (now % 1099511627776 - back % 65536) = now % 1099511627776 - back % 65536 := w64 (by omega)
  have hle : now % 1099511627776 - back % 65536 ≤ now % 1099511627776 := by omega
  have s1 := seen_spec hR hC1 (id := cutS id 20) (t := now % 1099511627776 - back % 65536) (now := now % 1099511627776)
  have e1 : (seenC (room % 32) l (cutS id 20) (now % 1099511627776 - back % 65536) (now % 1099511627776)).1 = 5 := by simp [seenC, hle]
  rw [e1, if_pos hle] at s1
  have a2 := all_spec hA.toHasR2 hC1 (by omega)
  rw [hks] at a2
  have i1 : IsAll (allS (allS S kys) kys) S.n kys := isAll_allS.later (fun j hj => allS_heap hj) allS_n
  have i2 : IsAll (allS (allS S kys) kys) (allS S kys).n kys := isAll_allS
  simp [put_apply, e2, e3, e4, e11, e12, a1, a2, s1, w1]
  refine late_cmp (xs := sortB kys) (was := allV S kys) (all := allV (allS S kys) kys) (N := S.n + kys.length) (M := (allS S kys).n + kys.length) (by rw [sortB_len]; omega) (by rw [sortB_len]; simp) (by rw [sortB_len]; exact fun i hi => allV_at hi) (by rw [sortB_len]; exact fun i hi => allV_at hi) (all_ld i1) (all_ld i2) ?_ (sortB kys).length 0 _ _ (by omega) rfl (by simp [put_apply, e11]) (by simp [put_apply]) (by simp [put_apply]) (by simp [put_apply])
  intro e e11
  simp [put_apply, e11, retRs, retR]

end
end Abs

namespace Abs
open Go

structure HasR9 (A : AProg) : Prop extends HasR2 A where
  n9 : A.ext 9 = none ∧ A.funcs 9 = some f9 ∧ A.mode 9 = .keep

/- the plain law -/
def IsMax (E : List (ByteArray × Int)) (id : ByteArray) : Option Int → Prop
  | none => ∀ p ∈ E, p.1 ≠ id
  | some m => (id, m) ∈ E ∧ ∀ p ∈ E, p.1 = id → p.2 ≤ m

structure MaxOf (now : Int) (E l : List (ByteArray × Int)) : Prop where
  mx : ∀ id, IsMax E id (lookC id l)
  nd : (l.map (·.1)).Nodup
  lo : ∀ p ∈ l, now < p.2
  hi : ∀ p ∈ l, p.2 ≤ now + 32

theorem look_set {i j : ByteArray} {v : Int} : ∀ {l : List (ByteArray × Int)}, lookC j (setC i v l) = if j = i then some v else lookC j l
  | [] => by
    simp only [setC, lookC]
    by_cases h : j = i
    · simp [h]
    · simp [h, Ne.symm h]
  | p :: l => by
    by_cases h1 : p.1 = i
    · by_cases h : j = i
      · simp [setC, lookC, h1, h]
      · have : ¬ p.1 = j := by rw [h1]; exact Ne.symm h
        simp [setC, lookC, h1, h, Ne.symm h]
    · simp only [setC, h1, if_false, lookC]
      by_cases h2 : p.1 = j
      · have : ¬ j = i := by rw [← h2]; exact h1
        simp [h2, this]
      · simp only [h2, if_false]
        exact look_set

theorem mem_set {id : ByteArray} {v : Int} : ∀ {l : List (ByteArray × Int)} {p : ByteArray × Int}, p ∈ setC id v l → p = (id, v) ∨ p ∈ l
  | [], p, h => by simp [setC] at h; exact .inl h
  | q :: l, p, h => by
    simp only [setC] at h
    split at h
    · rcases List.mem_cons.1 h with h | h
      · exact .inl h
      · exact .inr (by simp [h])
    · rcases List.mem_cons.1 h with h | h
      · exact .inr (by simp [h])
      · rcases mem_set h with h | h
        · exact .inl h
        · exact .inr (by simp [h])

theorem max_add {now : Int} {E l : List (ByteArray × Int)} (h : MaxOf now E l) {id : ByteArray} {t : Int} (h1 : now < t) (h2 : t ≤ now + 32) (h3 : l.length < 40) : MaxOf now (E ++ [(id, t)]) (seenC 40 l id t now).2 := by
  have hl : liveC now l = l := live_all h.lo
  unfold seenC
  rw [if_neg (by omega), hl]
  cases hk : lookC id l with
  | some old =>
    have hm := h.mx id
    rw [hk] at hm
    refine ⟨fun j => ?_, by show ((setC id (max old t) l).map (·.1)).Nodup; rw [set_keys hk]; exact h.nd, fun p hp => ?_, fun p hp => ?_⟩
    · show IsMax _ j (lookC j (setC id (max old t) l))
      rw [look_set]
      by_cases hj : j = id
      · subst hj
        rw [if_pos rfl]
        refine ⟨?_, fun p hp hpi => ?_⟩
        · by_cases ho : old ≤ t
          · rw [Int.max_eq_right ho]; simp
          · rw [Int.max_eq_left (by omega)]; exact List.mem_append_left _ hm.1
        · rcases List.mem_append.1 hp with hp | hp
          · have := hm.2 p hp hpi; omega
          · simp at hp; subst hp; show t ≤ max old t; omega
      · rw [if_neg hj]
        have hm2 := h.mx j
        cases hlj : lookC j l with
        | none =>
          rw [hlj] at hm2
          intro p hp
          rcases List.mem_append.1 hp with hp | hp
          · exact hm2 p hp
          · simp at hp; subst hp; exact Ne.symm hj
        | some m =>
          rw [hlj] at hm2
          refine ⟨List.mem_append_left _ hm2.1, fun p hp hpi => ?_⟩
          rcases List.mem_append.1 hp with hp | hp
          · exact hm2.2 p hp hpi
          · simp at hp; subst hp; exact absurd hpi.symm hj
    · have hp : p ∈ setC id (max old t) l := hp
      rcases mem_set hp with rfl | hp
      · show now < max old t; omega
      · exact h.lo p hp
    · have hp : p ∈ setC id (max old t) l := hp
      rcases mem_set hp with rfl | hp
      · have : ∀ {l : List (ByteArray × Int)} {o : Int}, lookC id l = some o → (id, o) ∈ l := by
          intro l
          induction l with
          | nil => intro o h; cases h
          | cons q l ih =>
            intro o ho
            simp only [lookC] at ho
            split at ho
            · rename_i hq; cases ho; obtain ⟨a, b⟩ := q; simp only at hq; subst hq; simp
            · exact List.mem_cons_of_mem _ (ih ho)
        have := h.hi _ (this hk)
        show max old t ≤ now + 32
        simp only at this; omega
      · exact h.hi p hp
  | none =>
    have hm := h.mx id
    rw [hk] at hm
    simp only
    rw [if_neg (by omega), set_new hk]
    refine ⟨fun j => ?_, ?_, fun p hp => ?_, fun p hp => ?_⟩
    · rw [← set_new hk (v := t), look_set]
      by_cases hj : j = id
      · subst hj
        rw [if_pos rfl]
        refine ⟨by simp, fun p hp hpi => ?_⟩
        rcases List.mem_append.1 hp with hp | hp
        · exact absurd hpi (hm p hp)
        · simp at hp; subst hp; exact Int.le_refl _
      · rw [if_neg hj]
        have hm2 := h.mx j
        cases hlj : lookC j l with
        | none =>
          rw [hlj] at hm2
          intro p hp
          rcases List.mem_append.1 hp with hp | hp
          · exact hm2 p hp
          · simp at hp; subst hp; exact Ne.symm hj
        | some m =>
          rw [hlj] at hm2
          refine ⟨List.mem_append_left _ hm2.1, fun p hp hpi => ?_⟩
          rcases List.mem_append.1 hp with hp | hp
          · exact hm2.2 p hp hpi
          · simp at hp; subst hp; exact absurd hpi.symm hj
    · rw [List.map_append, List.nodup_append]
      refine ⟨h.nd, by simp, ?_⟩
      intro a ha b hb
      simp at hb; subst hb
      rintro rfl
      exact look_mem hk ha
    · rcases List.mem_append.1 hp with hp | hp
      · exact h.lo p hp
      · simp at hp; subst hp; exact h1
    · rcases List.mem_append.1 hp with hp | hp
      · exact h.hi p hp
      · simp at hp; subst hp; exact h2

theorem look_iff : ∀ {l : List (ByteArray × Int)}, (l.map (·.1)).Nodup → ∀ p : ByteArray × Int, p ∈ l ↔ lookC p.1 l = some p.2
  | [], _, p => by simp [lookC]
  | q :: l, hn, p => by
    simp only [List.map_cons, List.nodup_cons] at hn
    by_cases hq : q.1 = p.1
    · simp only [lookC, hq, if_true, List.mem_cons, Option.some.injEq]
      constructor
      · rintro (rfl | hp)
        · rfl
        · exact absurd (by rw [hq]; exact List.mem_map_of_mem (f := fun x : ByteArray × Int => x.1) hp) hn.1
      · intro h
        left
        obtain ⟨a, b⟩ := p; obtain ⟨c, d⟩ := q
        simp only at hq h; rw [hq, h]
    · simp only [lookC, hq, if_false, List.mem_cons]
      rw [← look_iff hn.2 p]
      constructor
      · rintro (rfl | hp)
        · exact absurd rfl hq
        · exact hp
      · exact .inr

theorem max_perm {now : Int} {E E' l l' : List (ByteArray × Int)} (h : MaxOf now E l) (h' : MaxOf now E' l') (he : ∀ p, p ∈ E ↔ p ∈ E') : l.Perm l' := by
  have nd1 : l.Nodup := List.Pairwise.of_map _ (fun a b h hh => h (by rw [hh])) h.nd
  have nd2 : l'.Nodup := List.Pairwise.of_map _ (fun a b h hh => h (by rw [hh])) h'.nd
  rw [List.perm_ext_iff_of_nodup nd1 nd2]
  intro p
  rw [look_iff h.nd, look_iff h'.nd]
  have : lookC p.1 l = lookC p.1 l' := by
    have m1 := h.mx p.1
    have m2 := h'.mx p.1
    cases e1 : lookC p.1 l with
    | none =>
      rw [e1] at m1
      cases e2 : lookC p.1 l' with
      | none => rfl
      | some m =>
        rw [e2] at m2
        exact absurd rfl (m1 (p.1, m) ((he (p.1, m)).2 m2.1))
    | some a =>
      rw [e1] at m1
      cases e2 : lookC p.1 l' with
      | none =>
        rw [e2] at m2
        exact absurd rfl (m2 (p.1, a) ((he (p.1, a)).1 m1.1))
      | some b =>
        rw [e2] at m2
        have h1 := m1.2 _ ((he _).2 m2.1) rfl
        have h2 := m2.2 _ ((he _).1 m1.1) rfl
        simp only at h1 h2
        rw [show a = b by omega]
  rw [this]


def entO (now : Int) (s : Stp) : ByteArray × Int := (cutS s.id 20, now + 1 + s.till % 32)

section
variable {A : AProg}

theorem order_loop1 (hA : HasR9 A) {L : List Stp} {now : Int} {ks : List Kn} {c1 m1 c2 m2 : Nat} (hL : L.length ≤ maxLen) (hnow : 0 ≤ now ∧ now < 65536) {n : Nat} (hn : n = min L.length 30)
    (hk : ∀ e S l1 l2, e 1 = .sc (.int .i64 now) → e 5 = .sc (.bool true) → e 6 = .ptr c1 0 0 → e 7 = .ptr c2 0 0 → Two S c1 m1 40 l1 c2 m2 40 l2 → MaxOf now ((L.take n).map (entO now)) l1 → MaxOf now ((L.take n).reverse.map (entO now)) l2 → l1.length ≤ n → Tru (fin [.tmp 4] (unw A (some (.exit 0, st 140 e (fun _ => none) S)) ks))) :
    ∀ (m i : Nat) (e : Nat → AV) (rg : Nat → Option (List AV)) (S : AS) (l1 l2 : List (ByteArray × Int)) (tm : List Nat), m + i = n → tm = [10, 11, 30, 31, 32, 33, 34, 35, 36, 37, 38, 39, 40, 41, 42, 43, 44, 45, 46, 47, 48, 49, 50, 51, 52, 53, 54, 55, 56, 57, 58, 59, 60, 61, 62, 63, 64, 65, 66, 67, 68, 69, 70, 71, 72, 73, 74, 75, 76, 77] →
      fgtR [10, 11] rg = (fun _ => none) → NR tm e → e 0 = stpA L → e 1 = .sc (.int .i64 now) → e 5 = .sc (.bool true) → e 6 = .ptr c1 0 0 → e 7 = .ptr c2 0 0 → e 8 = .sc (.int .i64 n) → e 9 = .sc (.int .i64 i) → Two S c1 m1 40 l1 c2 m2 40 l2 →
      MaxOf now ((L.take i).map (entO now)) l1 → MaxOf now (((L.take n).reverse.take i).map (entO now)) l2 → l1.length ≤ i → l2.length ≤ i →
      Tru (fin [.tmp 4] (exec A (.loop tm [10, 11] f9_l2) (st 140 e rg S) ks)) := by
  intro m
  induction m with
  | zero =>
    intro i e rg S l1 l2 tm hmi htm hrg hr h0 h1 h5 h6 h7 h8 h9 hT hM1 hM2 q1 q2
    rw [exec_loop_rg hr, hrg]
    generalize hkk : Kn.loop tm [10, 11] f9_l2 :: ks = kk
    have hi : i = n := by omega
    subst hi
    simp [f9_l2, put_apply, htm, h8, h9]
    rw [← hkk]; simp
    have hlen : (L.take i).reverse.length = i := by simp; omega
    rw [List.take_of_length_le (by omega)] at hM2
    exact hk _ _ _ _ (by simp [put_apply, h1]) (by simp [put_apply, h5]) (by simp [put_apply, h6]) (by simp [put_apply, h7]) hT hM1 hM2 q1
  | succ m ih =>
    intro i e rg S l1 l2 tm hmi htm hrg hr h0 h1 h5 h6 h7 h8 h9 hT hM1 hM2 q1 q2
    rw [exec_loop_rg hr, hrg]
    generalize hkk : Kn.loop tm [10, 11] f9_l2 :: ks = kk
    have hi : i < n := by omega
    have hii : (i : Int) < n := by omega
    have hlt : i < L.length := by omega
    obtain ⟨x, hx⟩ : ∃ x, L[i]? = some x := ⟨L[i], by simp [hlt]⟩
    have hj : n - 1 - i < L.length := by omega
    obtain ⟨y, hy⟩ : ∃ y, L[n - 1 - i]? = some y := ⟨L[n - 1 - i], by simp [hj]⟩
    have hyr : (L.take n).reverse[i]? = some y := by
      rw [List.getElem?_reverse (by simp; omega), List.getElem?_take, if_pos (by simp; omega), ← hy]
      congr 1; simp; omega
    have w1 : IntKind.i64.wrap ((i : Int) + 1) = ((i + 1 : Nat) : Int) := w64 (by omega)
    have w2 : IntKind.i64.wrap ((n : Int) - 1) = (n : Int) - 1 := w64 (by omega)
    have w3 : IntKind.i64.wrap ((n : Int) - 1 - i) = ((n - 1 - i : Nat) : Int) := by rw [w64 (by omega)]; omega
    have w4 : IntKind.i64.wrap (now + 1) = now + 1 := w64 (by omega)
    have w5 : IntKind.i64.wrap (now + 1 + x.till % 32) = now + 1 + x.till % 32 := w64 (by omega)
    have w6 : IntKind.i64.wrap (now + 1 + y.till % 32) = now + 1 + y.till % 32 := w64 (by omega)
    have hR := hA.toHasR
    have k1 := @seen_len 40 l1 (cutS x.id 20) (now + 1 + x.till % 32) now
    have k2 := @seen_len 40 l2 (cutS y.id 20) (now + 1 + y.till % 32) now
    have t1 : ¬ now + 1 + x.till % 32 ≤ now := by omega
    have t2 : ¬ now + 1 + y.till % 32 ≤ now := by omega
    have hT1 := hT.setA (seenC 40 l1 (cutS x.id 20) (now + 1 + x.till % 32) now).2 1
    have hT2 := hT1.setB (seenC 40 l2 (cutS y.id 20) (now + 1 + y.till % 32) now).2 1
    have n1 := max_add hM1 (id := cutS x.id 20) (t := now + 1 + x.till % 32) (by omega) (by omega) (by omega)
    have n2 := max_add hM2 (id := cutS y.id 20) (t := now + 1 + y.till % 32) (by omega) (by omega) (by omega)
    have f1 : (L.take i).map (entO now) ++ [(cutS x.id 20, now + 1 + x.till % 32)] = (L.take (i + 1)).map (entO now) := by
      rw [List.take_add_one, hx]; simp [entO]
    have f2 : ((L.take n).reverse.take i).map (entO now) ++ [(cutS y.id 20, now + 1 + y.till % 32)] = ((L.take n).reverse.take (i + 1)).map (entO now) := by
      rw [List.take_add_one, hyr]; simp [entO]
    rw [f1] at n1
    rw [f2] at n2
    simp [f9_l2, put_apply, htm, h0, h1, h6, h7, h8, h9, stpA, hii, hx, hy, Stp.row, setCells, upd_apply, w1, w2, w3, w4, w5, w6, seen_spec hR hT.a, seen_spec hR hT1.b, t1, t2]
    rw [← hkk, unw_loop]
    exact ih (i + 1) _ _ _ _ _ tm (by omega) htm (by simp [fgtR_upd]) (by subst htm; repeat (first | exact NR_fgt' hr | refine NR_put ?_ rfl)) (by simp [put_apply, htm, h0]) (by simp [put_apply, htm, h1]) (by simp [put_apply, htm, h5]) (by simp [put_apply, htm, h6]) (by simp [put_apply, htm, h7]) (by simp [put_apply, htm, h8]) (by simp [put_apply]) hT2 n1 n2 (by omega) (by omega)


theorem order_cmp {ks : List Kn} {was all : AV} {S : AS} {xs : List ByteArray} {N M : Nat} {v1 v5 v6 v7 v12 : AV} (hx : xs.length ≤ 1000)
    (l1 : pev .lenL [was] = some (.sc (.int .i64 xs.length)))
    (a1 : ∀ i, i < xs.length → pev (.iaddr 1) [was, .sc (.int .i64 (i : Int))] = some (.ptr N i 0)) (a2 : ∀ i, i < xs.length → pev (.iaddr 1) [all, .sc (.int .i64 (i : Int))] = some (.ptr M i 0))
    (d1 : ∀ i x d rg, xs[i]? = some x → opev (.ld none 1 false) d rg S [.ptr N i 0] = some (.sc (.string x), none, S)) (d2 : ∀ i x d rg, xs[i]? = some x → opev (.ld none 1 false) d rg S [.ptr M i 0] = some (.sc (.string x), none, S))
    (hst : ∀ i x y, xs[i]? = some x → xs[i + 1]? = some y → sLt y x = false ∧ y ≠ x)
    (hk : ∀ e, e 1 = v1 → e 5 = v5 → e 6 = v6 → e 7 = v7 → e 12 = v12 → Tru (fin [.tmp 4] (unw A (some (.exit 4, st 140 e (fun _ => none) S)) ks))) :
    ∀ (n i : Nat) (e : Nat → AV) (tm : List Nat), n + i = xs.length → tm = [4, 103, 104, 105, 106, 107, 108, 109, 110, 111, 112, 113, 114, 115, 116, 117, 118, 119, 120, 121, 122, 123, 124, 125, 126, 127, 128, 129, 130, 131, 132, 133] → e 1 = v1 → e 5 = v5 → e 6 = v6 → e 7 = v7 → e 12 = v12 → e 13 = was → e 14 = all → e 15 = .sc (.int .i64 i) →
      Tru (fin [.tmp 4] (exec A (.loop tm [] f9_l0) (st 140 e (fun _ => none) S) ks)) := by
  intro n
  induction n with
  | zero =>
    intro i e tm hn htm h1 h5 h6 h7 h12 h13 h14 h15
    rw [exec_loop]
    generalize hkk : Kn.loop tm [] f9_l0 :: ks = kk
    have hc : ¬ (i : Int) < xs.length := by omega
    simp [f9_l0, put_apply, htm, h13, h14, h15, l1, hc]
    rw [← hkk]; simp
    exact hk _ (by simp [put_apply, h1]) (by simp [put_apply, h5]) (by simp [put_apply, h6]) (by simp [put_apply, h7]) (by simp [put_apply, h12])
  | succ n ih =>
    intro i e tm hn htm h1 h5 h6 h7 h12 h13 h14 h15
    rw [exec_loop]
    generalize hkk : Kn.loop tm [] f9_l0 :: ks = kk
    have hc : (i : Int) < xs.length := by omega
    have hlt : i < xs.length := by omega
    obtain ⟨x, hxi⟩ : ∃ x, xs[i]? = some x := ⟨xs[i], by simp [hlt]⟩
    have w1 : IntKind.i64.wrap ((i : Int) + 1) = ((i + 1 : Nat) : Int) := w64 (by omega)
    have fin' : ∀ e' : Nat → AV, e' 1 = v1 → e' 5 = v5 → e' 6 = v6 → e' 7 = v7 → e' 12 = v12 → e' 13 = was → e' 14 = all → e' 15 = .sc (.int .i64 ((i + 1 : Nat) : Int)) → Tru (fin [.tmp 4] (unw A (some (.normal, st 140 e' (fun _ => none) S)) kk)) := by
      intro e' g1 g5 g6 g7 g12 g13 g14 g15
      rw [← hkk, unw_loop]
      exact ih (i + 1) e' tm (by omega) htm g1 g5 g6 g7 g12 g13 g14 g15
    by_cases hi : i = 0
    · subst hi
      have q1 := a1 0 hlt
      have q2 := a2 0 hlt
      have w1 : IntKind.i64.wrap 1 = 1 := by decide
      simp only [Int.natCast_zero] at q1 q2 hc h15
      simp [f9_l0, put_apply, htm, h13, h14, h15, l1, hc, q1, q2, d1 0 x _ _ hxi, d2 0 x _ _ hxi, w1, hlt]
      exact fin' _ (by simp [put_apply, h1]) (by simp [put_apply, h5]) (by simp [put_apply, h6]) (by simp [put_apply, h7]) (by simp [put_apply, h12]) (by simp [put_apply, h13]) (by simp [put_apply, h14]) (by simp [put_apply])
    · obtain ⟨k, rfl⟩ : ∃ k, i = k + 1 := ⟨i - 1, by omega⟩
      obtain ⟨y, hyk⟩ : ∃ y, xs[k]? = some y := ⟨xs[k]'(by omega), by simp⟩
      obtain ⟨z1, z2⟩ := hst k y x hyk hxi
      have hpos : (0 : Int) < ((k + 1 : Nat) : Int) := by omega
      have w2 : IntKind.i64.wrap (((k + 1 : Nat) : Int) - 1) = (k : Int) := by rw [w64 (by omega)]; omega
      have q1 := a1 (k + 1) hlt
      have q2 := a2 (k + 1) hlt
      have q3 := a1 k (by omega)
      generalize hc1 : ((k + 1 : Nat) : Int) = ck at *
      simp [f9_l0, put_apply, htm, h13, h14, h15, l1, hc, q1, q2, q3, d1 (k + 1) x _ _ hxi, d2 (k + 1) x _ _ hxi, d1 k y _ _ hyk, w1, w2, hpos, z1, z2]
      exact fin' _ (by simp [put_apply, h1]) (by simp [put_apply, h5]) (by simp [put_apply, h6]) (by simp [put_apply, h7]) (by simp [put_apply, h12]) (by simp [put_apply, h13]) (by simp [put_apply, h14]) (by simp [put_apply, w1])

theorem sortB_sorted {l : List ByteArray} (hn : l.Nodup) {i : Nat} {x y : ByteArray} (hx : (sortB l)[i]? = some x) (hy : (sortB l)[i + 1]? = some y) : sLt y x = false ∧ y ≠ x := by
  have tr : ∀ a b c : List UInt8, decide (a ≤ b) = true → decide (b ≤ c) = true → decide (a ≤ c) = true := fun a b c h1 h2 => by simp only [decide_eq_true_eq] at *; exact List.le_trans h1 h2
  have to : ∀ a b : List UInt8, (decide (a ≤ b) || decide (b ≤ a)) = true := fun a b => by simp only [Bool.or_eq_true, decide_eq_true_eq]; exact List.le_total a b
  have hp := List.pairwise_mergeSort tr to (l.map fun s => s.data.toList)
  have hnd : ((l.map fun s => s.data.toList).mergeSort fun x y => decide (x ≤ y)).Nodup := by
    refine ((List.mergeSort_perm _ _).nodup_iff).2 ?_
    unfold List.Nodup
    rw [List.pairwise_map]
    exact hn.imp fun h hh => h (ba_data hh)
  unfold sortB at hx hy
  rw [List.getElem?_map] at hx hy
  obtain ⟨a, ha, rfl⟩ := Option.map_eq_some_iff.1 hx
  obtain ⟨b, hb, rfl⟩ := Option.map_eq_some_iff.1 hy
  obtain ⟨ha1, ha2⟩ := List.getElem?_eq_some_iff.1 ha
  obtain ⟨hb1, hb2⟩ := List.getElem?_eq_some_iff.1 hb
  have h1 := List.pairwise_iff_getElem.1 hp i (i + 1) ha1 hb1 (by omega)
  have h2 := List.pairwise_iff_getElem.1 hnd i (i + 1) ha1 hb1 (by omega)
  rw [ha2, hb2] at h1 h2
  simp only [decide_eq_true_eq] at h1
  constructor
  · rw [sLt_iff, decide_eq_false]
    show ¬ b < a
    exact List.not_lt.2 h1
  · intro h
    apply h2
    have := congrArg (fun x : ByteArray => x.data.toList) h
    exact this.symm

theorem two_allS {S : AS} {c1 m1 c2 m2 : Nat} {r1 r2 : Int} {l1 l2 : List (ByteArray × Int)} (h : Two S c1 m1 r1 l1 c2 m2 r2 l2) (ks : List ByteArray) : Two (allS S ks) c1 m1 r1 l1 c2 m2 r2 l2 :=
  ⟨h.a.allS ks, h.b.allS ks, h.n1, h.n2, h.n3⟩

theorem order_loop2 (hA : HasR9 A) {now : Int} {ks : List Kn} {c1 m1 c2 m2 : Nat} (hnow : 0 ≤ now ∧ now < 65536)
    (hk : ∀ e S, e 5 = .sc (.bool true) → e 6 = .ptr c1 0 0 → IsCache S c1 m1 40 [] → Tru (fin [.tmp 4] (unw A (some (.exit 2, st 140 e (fun _ => none) S)) ks))) :
    ∀ (m i : Nat) (e : Nat → AV) (S : AS) (l1 l2 : List (ByteArray × Int)) (tm : List Nat), m + i = 40 → tm = [4, 13, 14, 15, 79, 80, 81, 82, 83, 84, 85, 86, 87, 88, 89, 90, 91, 92, 93, 94, 95, 96, 97, 98, 99, 100, 101, 102, 103, 104, 105, 106, 107, 108, 109, 110, 111, 112, 113, 114, 115, 116, 117, 118, 119, 120, 121, 122, 123, 124, 125, 126, 127, 128, 129, 130, 131, 132, 133] →
      e 1 = .sc (.int .i64 now) → e 5 = .sc (.bool true) → e 6 = .ptr c1 0 0 → e 7 = .ptr c2 0 0 → e 12 = .sc (.int .i64 (now + i)) → Two S c1 m1 40 l1 c2 m2 40 l2 → l1.Perm l2 → (l1.map (·.1)).Nodup → l1.length ≤ 40 → (∀ p ∈ l1, p.2 ≤ now + 32) → (∀ p ∈ l1, now + i - 1 < p.2) →
      Tru (fin [.tmp 4] (exec A (.loop tm [] f9_l1) (st 140 e (fun _ => none) S) ks)) := by
  intro m
  induction m with
  | zero =>
    intro i e S l1 l2 tm hmi htm h1 h5 h6 h7 h12 hT hp hnd hl hhi hlo
    rw [exec_loop]
    generalize hkk : Kn.loop tm [] f9_l1 :: ks = kk
    have w1 : IntKind.i64.wrap (now + 40) = now + 40 := w64 (by omega)
    have hc : ¬ now + (i : Int) < now + 40 := by omega
    have hi : i = 40 := by omega
    subst hi
    simp [f9_l1, put_apply, htm, h1, h12, w1]
    rw [← hkk]; simp
    have : l1 = [] := by
      cases l1 with
      | nil => rfl
      | cons p l =>
        have := hhi p (by simp)
        have := hlo p (by simp)
        omega
    subst this
    exact hk _ _ (by simp [put_apply, h5]) (by simp [put_apply, h6]) hT.a
  | succ m ih =>
    intro i e S l1 l2 tm hmi htm h1 h5 h6 h7 h12 hT hp hnd hl hhi hlo
    rw [exec_loop]
    generalize hkk : Kn.loop tm [] f9_l1 :: ks = kk
    have w1 : IntKind.i64.wrap (now + 40) = now + 40 := w64 (by omega)
    have w2 : IntKind.i64.wrap (now + (i : Int) + 1) = now + ((i + 1 : Nat) : Int) := by rw [w64 (by omega)]; omega
    have hc : now + (i : Int) < now + 40 := by omega
    have hl2 : l2.length = l1.length := hp.length_eq.symm
    have hR := hA.toHasR
    generalize hk1 : l1.map (·.1) = k1 at hnd
    generalize hk2 : l2.map (·.1) = k2
    have hkp : k1.Perm k2 := by rw [← hk1, ← hk2]; exact hp.map _
    have hklen : k2.length = k1.length := hkp.length_eq.symm
    have hkl : k1.length ≤ 40 := by rw [← hk1]; simpa using hl
    have s1 := all_spec hA.toHasR2 hT.a (by omega)
    rw [hk1] at s1
    have hT1 := two_allS hT k1
    have s2 := all_spec hA.toHasR2 hT1.b (by omega)
    rw [hk2] at s2
    have hT2 := two_allS hT1 k2
    have p1 := prune_spec hR hT2.a (now := now + i)
    have hT3 := hT2.setA (liveC (now + i) l1) 1
    have p2 := prune_spec hR hT3.b (now := now + i)
    have hT4 := hT3.setB (liveC (now + i) l2) 1
    have hpl : (liveC (now + i) l1).Perm (liveC (now + i) l2) := hp.filter _
    rw [hl2, ← hpl.length_eq] at p2
    have hso : sortB k2 = sortB k1 := (sortB_perm hkp).symm
    -- the two lists stay
    have lt1 : m1 < S.n := hT.a.ltm
    have lt2 : m2 < S.n := hT.b.ltm
    have i1 : IsAll (setM (setM (allS (allS S k1) k2) m1 (liveC (now + i) l1) 1) m2 (liveC (now + i) l2) 1) S.n k1 := by
      have j1 : IsAll (allS (allS S k1) k2) S.n k1 := isAll_allS.later (fun j hj => allS_heap hj) allS_n
      refine ⟨fun h => ?_, Nat.lt_of_lt_of_le j1.lt (by show _ ≤ _ + 1 + 1; omega)⟩
      show (if S.n + k1.length = m2 then _ else if S.n + k1.length = m1 then _ else _) = _
      rw [if_neg (by omega), if_neg (by omega)]; exact j1.h h
    have i2 : IsAll (setM (setM (allS (allS S k1) k2) m1 (liveC (now + i) l1) 1) m2 (liveC (now + i) l2) 1) (allS S k1).n k2 := by
      have j2 : IsAll (allS (allS S k1) k2) (allS S k1).n k2 := isAll_allS
      have := allS_n (S := S) (ks := k1)
      refine ⟨fun h => ?_, Nat.lt_of_lt_of_le j2.lt (by show _ ≤ _ + 1 + 1; omega)⟩
      show (if (allS S k1).n + k2.length = m2 then _ else if (allS S k1).n + k2.length = m1 then _ else _) = _
      rw [if_neg (by omega), if_neg (by omega)]; exact j2.h h
    simp [f9_l1, put_apply, htm, h1, h5, h6, h7, h12, w1, hc, s1, s2, p1, p2, hklen]
    refine order_cmp (xs := sortB k1) (was := allV S k1) (all := allV (allS S k1) k2) (N := S.n + k1.length) (M := (allS S k1).n + k2.length) (v1 := .sc (.int .i64 now)) (v5 := .sc (.bool true)) (v6 := .ptr c1 0 0) (v7 := .ptr c2 0 0) (v12 := .sc (.int .i64 (now + i))) (by rw [sortB_len]; omega) (by rw [sortB_len]; simp) (by rw [sortB_len]; exact fun i hi => allV_at hi) (by rw [sortB_len, ← hklen]; exact fun i hi => allV_at hi) (all_ld i1) (by rw [← hso]; exact all_ld i2) (fun i x y hx hy => sortB_sorted hnd hx hy) ?_ (sortB k1).length 0 _ _ (by omega) rfl (by simp [put_apply, htm, h1]) (by simp [put_apply, htm, h5]) (by simp [put_apply, htm, h6]) (by simp [put_apply, htm, h7]) (by simp [put_apply, htm, h12]) (by simp [put_apply]) (by simp [put_apply]) (by simp [put_apply])
    intro e2 g1 g5 g6 g7 g12
    simp [put_apply, g12, w2]
    rw [← hkk, unw_loop]
    have hsub : (liveC (now + i) l1).Sublist l1 := List.filter_sublist
    refine ih (i + 1) _ _ (liveC (now + i) l1) (liveC (now + i) l2) tm (by omega) htm (by simp [put_apply, g1]) (by simp [put_apply, g5]) (by simp [put_apply, g6]) (by simp [put_apply, g7]) (by simp [put_apply]) hT4 hpl ?_ (Nat.le_trans hsub.length_le hl) (fun p hp => hhi p (hsub.subset hp)) ?_
    · rw [← hk1] at hnd
      exact (hsub.map _).nodup hnd
    · intro p hp
      have := (List.mem_filter.1 hp).2
      simp only [decide_eq_true_eq] at this
      omega

theorem order_law (hA : HasR9 A) {S : AS} (hn : S.ro ≤ S.n) (L : List Stp) (hL : L.length ≤ maxLen) (now : Int) : Tru (docall A (run A) 9 [stpA L, .sc (.int .i64 now)] S) := by
  obtain ⟨S1, hs, r1, n1⟩ := shown_spec hA.toHasR0 hn
  have hR := hA.toHasR
  have hb : 0 ≤ now % 65536 ∧ now % 65536 < 65536 := by omega
  generalize hnow : now % 65536 = t at hb
  have h1 : IsCache (newR (newR S1 40) 40) ((newR S1 40).n + 1) (newR S1 40).n 40 [] := newR_C (room := 40) (by simp [newR, AS.new]; omega)
  have hnn : (newR S1 40).n = S1.n + 2 := rfl
  have hT : Two (newR (newR S1 40) 40) (S1.n + 1) S1.n 40 [] (S1.n + 3) (S1.n + 2) 40 [] := by
    refine ⟨⟨?_, ?_, ?_, ?_, ?_⟩, h1, by omega, by omega, by omega⟩
    · simp [newR, AS.new]; omega
    · simp [newR, AS.new, esC]; omega
    · show S1.ro ≤ S1.n; omega
    · show S1.n + 1 < S1.n + 4; omega
    · show S1.n < S1.n + 4; omega
  obtain ⟨n, hmin⟩ : ∃ n : Nat, n = min L.length 30 := ⟨_, rfl⟩
  have hmi : min (L.length : Int) 30 = (n : Int) := by omega
  rw [docall_keep hA.n9.1 hA.n9.2.1 hA.n9.2.2 (by simp [stpA]) (by show 2 ≤ 140; omega)]
  simp only [f9]
  simp [f9b, put_apply, hs, new_spec hR, hnow, stpA, hmi]
  have hm0 : MaxOf t [] [] := ⟨fun _ _ hp => (by cases hp), (by simp), fun _ hp => (by cases hp), fun _ hp => (by cases hp)⟩
  refine order_loop1 hA (L := L) (now := t) (c1 := S1.n + 1) (m1 := S1.n) (c2 := S1.n + 3) (m2 := S1.n + 2) hL hb hmin ?_ n 0 _ _ _ [] [] _ (by omega) rfl (by simp) (by repeat (first | exact NR_ini (by simp [stpA]) | refine NR_put ?_ rfl)) (by simp [put_apply, stpA]) (by simp [put_apply]) (by simp [put_apply]) (by simp [put_apply]) (by simp [put_apply, hnn]) (by simp [put_apply]) (by simp [put_apply]) hT (by simpa using hm0) (by simpa using hm0) (by simp) (by simp)
  intro e S l1 l2 e1 e5 e6 e7 hT2 hM1 hM2 hl
  simp [put_apply, e1]
  have hp : l1.Perm l2 := max_perm hM1 hM2 (fun p => by simp)
  refine order_loop2 hA (now := t) (c1 := S1.n + 1) (m1 := S1.n) (c2 := S1.n + 3) (m2 := S1.n + 2) hb ?_ 40 0 _ _ l1 l2 _ (by omega) rfl (by simp [put_apply, e1]) (by simp [put_apply, e5]) (by simp [put_apply, e6]) (by simp [put_apply, e7]) (by simp [put_apply]) hT2 hp hM1.nd (by omega) hM1.hi (fun p hp => by have := hM1.lo p hp; omega)
  intro e S e5 e6 hC
  simp [put_apply, e5, e6, len_spec hR hC, retRs, retR]

end
end Abs

namespace Abs
open Go

structure HasR7 (A : AProg) : Prop extends HasR2 A where
  n54 : A.ext 54 = none ∧ A.funcs 54 = some f54 ∧ A.mode 54 = .keep
  n55 : A.ext 55 = none ∧ A.funcs 55 = some f55 ∧ A.mode 55 = .keep
  n56 : A.ext 56 = none ∧ A.funcs 56 = some f56 ∧ A.mode 56 = .keep
  n57 : A.ext 57 = none ∧ A.funcs 57 = some f57 ∧ A.mode 57 = .keep
  n7 : A.ext 7 = none ∧ A.funcs 7 = some f7 ∧ A.mode 7 = .keep

def entR (l : List (ByteArray × Int)) : List (List AV) := l.map fun p => [.sc (.string p.1), .sc (.int .i64 p.2)]

inductive LV (S : AS) : AV → List (ByteArray × Int) → List Nat → Prop
  | nil {z : Nat} : LV S (.lst z true []) [] []
  | arr {id : Nat} {l : List (ByteArray × Int)} (h : S.heap id = some (.rows 2 (entR l))) (ro : S.ro ≤ id) (lt : id < S.n) : LV S (.arr id 2 0 l.length none) l [id]

theorem entR_len {l : List (ByteArray × Int)} : (entR l).length = l.length := by simp [entR]
theorem entR_get {l : List (ByteArray × Int)} {i : Nat} {p : ByteArray × Int} (h : l[i]? = some p) : (entR l)[i]? = some [.sc (.string p.1), .sc (.int .i64 p.2)] := by
  simp [entR, h]

section
variable {A : AProg} {S S' : AS} {v : AV} {l : List (ByteArray × Int)} {ids : List Nat}

theorem LV.step (h : LV S v l ids) (hh : ∀ j ∈ ids, S'.heap j = S.heap j) (hr : S'.ro = S.ro) (hn : S.n ≤ S'.n) : LV S' v l ids := by
  cases h with
  | nil => exact .nil
  | arr h ro lt => exact .arr (by rw [hh _ (by simp)]; exact h) (by rw [hr]; exact ro) (Nat.lt_of_lt_of_le lt hn)
theorem LV.len (h : LV S v l ids) : pev .lenL [v] = some (.sc (.int .i64 l.length)) := by
  cases h <;> rfl
theorem LV.reg (h : LV S v l ids) : v.isReg = false := by cases h <;> rfl
theorem LV.cell (h : LV S v l ids) : v.isCell = true := by cases h <;> rfl
theorem LV.cells (h : LV S v l ids) : v.cells = [v] := by cases h <;> rfl
theorem LV.at_ (h : LV S v l ids) {i : Nat} (hi : i < l.length) : ∃ id, ids = [id] ∧ pev (.iaddr 2) [v, .sc (.int .i64 (i : Int))] = some (.ptr id i 0) ∧ S.heap id = some (.rows 2 (entR l)) := by
  cases h with
  | nil => simp at hi
  | arr h ro lt => exact ⟨_, rfl, by rw [pev_iaddrA (by omega) (by omega)]; simp, h⟩

/- one entry more -/
theorem LV.push (h : LV S v l ids) (hro : S.ro ≤ S.n) (p : ByteArray × Int) (hb : (l.length + 1) * 24 ≤ 140737488355328) :
    ∃ v' S', (∀ d rg, opev (.append 2 24) d rg S [v, .lst 2 true [[.sc (.string p.1), .sc (.int .i64 p.2)]]] = some (v', none, S')) ∧ LV S' v' (l ++ [p]) [S.n] ∧ S'.ro = S.ro ∧ S'.n = S.n + 1 ∧ ∀ j, j < S.n → j ∉ ids → S'.heap j = S.heap j := by
  cases h with
  | nil =>
    refine ⟨.arr S.n 2 0 1 none, S.new (.rows 2 [[.sc (.string p.1), .sc (.int .i64 p.2)]]), ?_, ?_, rfl, rfl, ?_⟩
    · intro d rg
      rename_i z
      simp only [opev, rowsOf, beq_self_eq_true, Bool.true_or, if_true, decide_true, Option.bind_some, appendA, List.isEmpty_cons, Bool.false_eq_true, if_false, List.isEmpty_nil, Bool.true_and, List.length_nil, Nat.zero_add, List.nil_append, Option.map_some]
      simp
    · exact .arr (l := [p]) (by simp [AS.new, entR]) hro (Nat.lt_succ_self _)
    · intro j hj _
      exact if_neg (by omega)
  | arr h ro lt =>
    rename_i id
    have hs : IsSl S id 2 (entR l) := ⟨h, ro, lt⟩
    refine ⟨.arr S.n 2 0 (l.length + 1) none, (S.set id none).new (.rows 2 (entR l ++ [[.sc (.string p.1), .sc (.int .i64 p.2)]])), ?_, ?_, rfl, rfl, ?_⟩
    · intro d rg
      have := opev_app (d := d) (rg := rg) (bytes := 24) hs (ys := [[.sc (.string p.1), .sc (.int .i64 p.2)]]) (by simp) (by rw [entR_len]; simpa using hb)
      rw [entR_len] at this
      exact this
    · have := LV.arr (S := (S.set id none).new (.rows 2 (entR l ++ [[.sc (.string p.1), .sc (.int .i64 p.2)]]))) (id := S.n) (l := l ++ [p]) (by simp [AS.new, AS.set, entR]) hro (Nat.lt_succ_self _)
      simpa using this
    · intro j hj hn
      show (if j = S.n then _ else if j = id then _ else _) = _
      rw [if_neg (by omega), if_neg (by simpa using hn)]

structure IsRef (S : AS) (wid : Nat) (room : Int) (l : List (ByteArray × Int)) (ids : List Nat) (v : AV) : Prop where
  w : S.heap wid = some (.rows 2 [[.sc (.int .i64 room), v]])
  lv : LV S v l ids
  ne : wid ∉ ids
  ro : S.ro ≤ wid
  lt : wid < S.n
  sr : S.ro ≤ S.n

structure Frm (wid : Nat) (ids : List Nat) (S S' : AS) : Prop where
  ro : S'.ro = S.ro
  n : S.n ≤ S'.n
  heap : ∀ j, j < S.n → j ≠ wid → j ∉ ids → S'.heap j = S.heap j

theorem opev_ldL {wid : Nat} {room : Int} {d : Option Nat} {rg : Nat → Option (List AV)} (h : IsRef S wid room l ids v) : opev (.ld none 1 false) d rg S [.ptr wid 0 1] = some (v, none, S) := by
  rw [opev_ld_ptr h.w]; simp
theorem opev_ldRm {wid : Nat} {room : Int} {d : Option Nat} {rg : Nat → Option (List AV)} (h : IsRef S wid room l ids v) : opev (.ld none 1 false) d rg S [.ptr wid 0 0] = some (.sc (.int .i64 room), none, S) := by
  rw [opev_ld_ptr h.w]; simp

/- what is left -/
def Sat (o : Option (AV × AS)) (Q : AV → AS → Prop) : Prop := ∃ v S', o = some (v, S') ∧ Q v S'
@[simp] theorem sat_some {v : AV} {S : AS} {Q : AV → AS → Prop} : Sat (some (v, S)) Q ↔ Q v S := by
  constructor
  · rintro ⟨_, _, h, hq⟩; cases h; exact hq
  · intro h; exact ⟨_, _, rfl, h⟩

theorem live_snoc {now : Int} {l : List (ByteArray × Int)} {i : Nat} {p : ByteArray × Int} (h : l[i]? = some p) : liveC now (l.take (i + 1)) = if now < p.2 then liveC now (l.take i) ++ [p] else liveC now (l.take i) := by
  rw [List.take_add_one, h]
  unfold liveC
  rw [List.filter_append]
  by_cases hp : now < p.2
  · simp [hp]
  · simp [hp]

theorem IsRef.step {wid : Nat} {room : Int} (h : IsRef S wid room l ids v) (hw : S'.heap wid = S.heap wid) (hh : ∀ j ∈ ids, S'.heap j = S.heap j) (hr : S'.ro = S.ro) (hn : S.n ≤ S'.n) : IsRef S' wid room l ids v :=
  ⟨by rw [hw]; exact h.w, h.lv.step hh hr hn, h.ne, by rw [hr]; exact h.ro, Nat.lt_of_lt_of_le h.lt hn, by rw [hr]; exact Nat.le_trans h.sr hn⟩
theorem LV.lt (h : LV S v l ids) : ∀ j ∈ ids, j < S.n := by
  cases h with
  | nil => intro j hj; cases hj
  | arr h ro lt => intro j hj; simp at hj; subst hj; exact lt

/- the loop of Prune -/
theorem refPrune_loop {wid : Nat} {room now : Int} {ks : List Kn} {Q : AV → AS → Prop} {S0 : AS} (hb : l.length ≤ 1000)
    (hk : ∀ e S u ms, e 0 = .ptr wid 0 0 → e 5 = u → IsRef S wid room l ids v → LV S u (liveC now l) ms → (∀ j ∈ ms, j ∉ ids ∧ j ≠ wid ∧ S0.n ≤ j) → S.ro = S0.ro → S0.n ≤ S.n → (∀ j, j < S0.n → S.heap j = S0.heap j) → Sat (fin [.tmp 4] (unw A (some (.exit 0, st 51 e (fun _ => none) S)) ks)) Q) :
    ∀ (n i : Nat) (e : Nat → AV) (S : AS) (u : AV) (ms : List Nat) (tm : List Nat), n + i = l.length → tm = [9, 10, 11, 12, 13, 14, 15, 16, 17, 18, 19, 20, 21, 22, 23, 24, 25, 26, 27, 28, 29, 30, 31, 32, 33, 34, 35, 36, 37] →
      e 0 = .ptr wid 0 0 → e 1 = .sc (.int .i64 now) → e 5 = u → e 6 = .sc (.int .i64 i) → IsRef S wid room l ids v → LV S u (liveC now (l.take i)) ms → (∀ j ∈ ms, j ∉ ids ∧ j ≠ wid ∧ S0.n ≤ j) → S.ro = S0.ro → S0.n ≤ S.n → (∀ j, j < S0.n → S.heap j = S0.heap j) →
      Sat (fin [.tmp 4] (exec A (.loop tm [] f55_l0) (st 51 e (fun _ => none) S) ks)) Q := by
  intro n
  induction n with
  | zero =>
    intro i e S u ms tm hn htm h0 h1 h5 h6 hR hU hms hro hnn hfr
    rw [exec_loop]
    generalize hkk : Kn.loop tm [] f55_l0 :: ks = kk
    have hc : ¬ (i : Int) < l.length := by omega
    rw [List.take_of_length_le (by omega)] at hU
    simp [f55_l0, put_apply, htm, h0, h6, opev_ldL hR, hR.lv.len, hc]
    rw [← hkk]; simp
    exact hk _ _ u ms (by simp [put_apply, h0]) (by simp [put_apply, h5]) hR hU hms hro hnn hfr
  | succ n ih =>
    intro i e S u ms tm hn htm h0 h1 h5 h6 hR hU hms hro hnn hfr
    rw [exec_loop]
    generalize hkk : Kn.loop tm [] f55_l0 :: ks = kk
    have hc : (i : Int) < l.length := by omega
    have hlt : i < l.length := by omega
    obtain ⟨p, hp⟩ : ∃ p, l[i]? = some p := ⟨l[i], by simp [hlt]⟩
    obtain ⟨id, hid, hat, hh⟩ := hR.lv.at_ hlt
    have w1 : IntKind.i64.wrap ((i : Int) + 1) = ((i + 1 : Nat) : Int) := w64 (by omega)
    by_cases hlive : now < p.2
    · obtain ⟨u', S', ha, hU', hro', hn', hh'⟩ := hU.push hR.sr p (by
        have : (liveC now (l.take i)).length ≤ i := Nat.le_trans live_len (by simp; omega)
        omega)
      have hR' := hR.step (S' := S') (hh' wid hR.lt (fun h => (hms wid h).2.1 rfl)) (fun j hj => hh' j (hR.lv.lt j hj) (fun h => (hms j h).1 hj)) hro' (by omega)
      simp [f55_l0, put_apply, htm, h0, h1, h5, h6, opev_ldL hR, hR.lv.len, hc, hat, opev_ld_ptr hh, entR_get hp, hlive, fillR, ha, w1]
      rw [← hkk, unw_loop]
      refine ih (i + 1) _ S' u' [S.n] tm (by omega) htm (by simp [put_apply, htm, h0]) (by simp [put_apply, htm, h1]) (by simp [put_apply]) (by simp [put_apply]) hR' (by rw [live_snoc hp, if_pos hlive]; exact hU') ?_ (hro'.trans hro) (by omega) ?_
      · intro j hj
        simp at hj; subst hj
        exact ⟨fun h => by have := hR.lv.lt _ h; omega, by have := hR.lt; omega, hnn⟩
      · intro j hj
        rw [hh' j (by omega) (fun h => by have := (hms j h).2.2; omega)]
        exact hfr j hj
    · simp [f55_l0, put_apply, htm, h0, h1, h5, h6, opev_ldL hR, hR.lv.len, hc, hat, opev_ld_ptr hh, entR_get hp, hlive, fillR, w1]
      rw [← hkk, unw_loop]
      exact ih (i + 1) _ S u ms tm (by omega) htm (by simp [put_apply, htm, h0]) (by simp [put_apply, htm, h1]) (by simp [put_apply, htm, h5]) (by simp [put_apply]) hR (by rw [live_snoc hp, if_neg hlive]; exact hU) hms hro hnn hfr

theorem refPrune_spec (hA : HasR7 A) {wid : Nat} {room now : Int} (hR : IsRef S wid room l ids v) (hb : l.length ≤ 1000) :
    ∃ S' ids' v', docall A (run A) 55 [.ptr wid 0 0, .sc (.int .i64 now)] S = some (.sc (.int .i64 (IntKind.i64.wrap (l.length - (liveC now l).length))), S') ∧ IsRef S' wid room (liveC now l) ids' v' ∧ Frm wid ids S S' ∧ ∀ j ∈ ids', S.n ≤ j := by
  have key : Sat (docall A (run A) 55 [.ptr wid 0 0, .sc (.int .i64 now)] S) fun r S' => r = .sc (.int .i64 (IntKind.i64.wrap (l.length - (liveC now l).length))) ∧ ∃ ids' v', IsRef S' wid room (liveC now l) ids' v' ∧ Frm wid ids S S' ∧ ∀ j ∈ ids', S.n ≤ j := by
    rw [docall_keep hA.n55.1 hA.n55.2.1 hA.n55.2.2 (by simp) (by show 2 ≤ 51; omega)]
    simp only [f55]
    simp [f55b, put_apply, fillR]
    refine refPrune_loop (ids := ids) (v := v) (l := l) (room := room) (now := now) (S0 := S) hb ?_ l.length 0 _ S (.lst 2 true []) [] _ (by omega) rfl (by simp [put_apply]) (by simp [put_apply]) (by simp [put_apply]) (by simp [put_apply]) hR .nil (fun _ h => by cases h) rfl (Nat.le_refl _) (fun _ _ => rfl)
    intro e S2 u ms e0 e5 hR2 hU hms hro hn hfr
    have hst : ∀ d rg, opev (.st none 1) d rg S2 [.ptr wid 0 1, u] = some (.junk, none, S2.set wid (some (.rows 2 [[.sc (.int .i64 room), u]]))) := by
      intro d rg
      simp only [opev, hR2.ro, hU.cells, List.all_cons, hU.cell, List.all_nil, Bool.and_self, List.length_singleton, and_self, if_true, hR2.w]
      simp [setCells]
    simp [put_apply, e0, e5, opev_ldL hR2, hR2.lv.len, hU.len, hst, retRs, retR]
    refine ⟨ms, ⟨u, ⟨by simp [AS.set], hU.step ?_ rfl (Nat.le_refl _), fun h => (hms _ h).2.1 rfl, hR2.ro, hR2.lt, hR2.sr⟩⟩, ⟨hro, hn, ?_⟩, fun j hj => (hms j hj).2.2⟩
    · intro j hj
      exact if_neg (hms j hj).2.1
    · intro j hj hjw hji
      show (if j = wid then _ else _) = _
      rw [if_neg hjw]; exact hfr j hj
  obtain ⟨r, S', h1, rfl, ids', v', h2, h3, h4⟩ := key
  exact ⟨S', ids', v', h1, h2, h3, h4⟩


theorem entR_app {a b : List (ByteArray × Int)} : entR (a ++ b) = entR a ++ entR b := by simp [entR]
theorem entR_nil {a : List (ByteArray × Int)} : (entR a).isEmpty = a.isEmpty := by cases a <;> rfl

theorem app_new {x : AV} {ys : List (ByteArray × Int)} (hro : S.ro ≤ S.n) (hx : rowsOf 2 S x = some (entR ys)) (hb : ys.length * 24 ≤ 140737488355328) :
    ∃ S', (∀ d rg, opev (.append 2 24) d rg S [.lst 2 true [], x] = some (.arr S.n 2 0 ys.length none, none, S')) ∧ LV S' (.arr S.n 2 0 ys.length none) ys [S.n] ∧ S'.ro = S.ro ∧ S'.n = S.n + 1 ∧ ∀ j, j < S.n → S'.heap j = S.heap j := by
  refine ⟨S.new (.rows 2 (entR ys)), ?_, .arr (by simp [AS.new]) hro (Nat.lt_succ_self _), rfl, rfl, fun j hj => if_neg (by omega)⟩
  intro d rg
  simp only [opev, hx, Option.bind_some]
  unfold appendA
  rw [entR_nil]
  cases ys with
  | nil => rfl
  | cons y ys =>
    simp only [List.isEmpty_cons, Bool.false_eq_true, if_false, List.isEmpty_nil, Bool.true_or, Bool.true_and, List.length_nil, Nat.zero_add, List.nil_append, decide_eq_true_eq]
    rw [if_pos (by rw [entR_len]; exact hb), entR_len]
    rfl

theorem app_more {id : Nat} {x : AV} {ys : List (ByteArray × Int)} (h : LV S (.arr id 2 0 l.length none) l [id]) (hro : S.ro ≤ S.n) (hx : rowsOf 2 S x = some (entR ys)) (hb : (l.length + ys.length) * 24 ≤ 140737488355328) :
    ∃ v' S' ids', (∀ d rg, opev (.append 2 24) d rg S [.arr id 2 0 l.length none, x] = some (v', none, S')) ∧ LV S' v' (l ++ ys) ids' ∧ S'.ro = S.ro ∧ S.n ≤ S'.n ∧ (∀ j, j < S.n → j ≠ id → S'.heap j = S.heap j) ∧ ∀ j ∈ ids', j = id ∨ S.n ≤ j := by
  cases ys with
  | nil =>
    refine ⟨_, S, [id], ?_, by simpa using h, rfl, Nat.le_refl _, fun _ _ _ => rfl, fun j hj => .inl (by simpa using hj)⟩
    intro d rg
    simp only [opev, hx, Option.bind_some]
    unfold appendA
    rfl
  | cons y ys =>
    have hs : S.heap id = some (.rows 2 (entR l)) ∧ S.ro ≤ id ∧ id < S.n := by
      generalize hv : AV.arr id 2 0 l.length none = v at h
      cases h with
      | arr h ro lt => cases hv; exact ⟨h, ro, lt⟩
    obtain ⟨h1, h2, h3⟩ := hs
    refine ⟨.arr S.n 2 0 (l ++ y :: ys).length none, (S.set id none).new (.rows 2 (entR (l ++ y :: ys))), [S.n], ?_, .arr (by simp [AS.new, AS.set]) hro (Nat.lt_succ_self _), rfl, Nat.le_succ _, ?_, fun j hj => .inr (by simp at hj; omega)⟩
    · intro d rg
      simp only [opev, hx, Option.bind_some]
      unfold appendA
      rw [entR_nil]
      simp only [List.isEmpty_cons, Bool.false_eq_true, if_false, h1, entR_len, List.length_cons] at hb ⊢
      rw [if_neg (by simp; omega)]
      rw [if_neg (by simp), if_pos ⟨trivial, hb⟩, List.take_of_length_le (by rw [entR_len]; exact Nat.le_refl _)]
      simp [entR]
    · intro j hj hne
      show (if j = S.n then _ else if j = id then _ else _) = _
      rw [if_neg (by omega), if_neg hne]

theorem LV.front (h : LV S v l ids) {at_ : Nat} (ha : at_ ≤ l.length) : ∃ x, pev (.sliceL 2 false true false) [v, .sc (.int .i64 (at_ : Int))] = some x ∧ ∀ S', (∀ j ∈ ids, S'.heap j = S.heap j) → rowsOf 2 S' x = some (entR (l.take at_)) := by
  cases h with
  | nil =>
    rename_i z
    have : at_ = 0 := by simpa using ha
    subst this
    exact ⟨.lst 2 true [], by simp [pev, bound], fun S' _ => by simp [rowsOf, entR]⟩
  | arr h ro lt =>
    rename_i id
    refine ⟨.arr id 2 0 at_ none, by simp [pev, bound, ha], fun S' hs => ?_⟩
    simp only [rowsOf, if_true, AS.slice, Nat.zero_le, hs id (by simp), h]
    simp [entR, ha]
theorem LV.back (h : LV S v l ids) {at_ : Nat} (ha : at_ ≤ l.length) : ∃ x, pev (.sliceL 2 true false false) [v, .sc (.int .i64 (at_ : Int))] = some x ∧ ∀ S', (∀ j ∈ ids, S'.heap j = S.heap j) → rowsOf 2 S' x = some (entR (l.drop at_)) := by
  cases h with
  | nil =>
    rename_i z
    have : at_ = 0 := by simpa using ha
    subst this
    exact ⟨.lst 2 true [], by simp [pev, bound], fun S' _ => by simp [rowsOf, entR]⟩
  | arr h ro lt =>
    rename_i id
    refine ⟨.arr id 2 at_ (l.length - at_) none, by simp [pev, bound, ha], fun S' hs => ?_⟩
    simp only [rowsOf, if_true, AS.slice, Nat.zero_le, hs id (by simp), h]
    have : at_ + (l.length - at_) ≤ (entR l).length := by rw [entR_len]; omega
    simp only [this, and_self, if_true]
    rw [List.take_of_length_le (by simp [entR])]
    simp [entR]

/- where a new entry goes -/
def atL (id : ByteArray) : List (ByteArray × Int) → Nat → Nat → Nat
  | [], _, a => a
  | p :: l, i, a => atL id l (i + 1) (if sLt p.1 id then i + 1 else a)
theorem atL_le {id : ByteArray} : ∀ {l : List (ByteArray × Int)} {i a : Nat}, a ≤ i → atL id l i a ≤ i + l.length
  | [], i, a, h => by simpa [atL] using h
  | p :: l, i, a, h => by
    have := @atL_le id l (i + 1) (if sLt p.1 id then i + 1 else a) (by split <;> omega)
    simp only [atL, List.length_cons]; omega

theorem look_skip {id : ByteArray} {p : ByteArray × Int} : ∀ {D R : List (ByteArray × Int)}, lookC id D = none → p.1 = id → lookC id (D ++ p :: R) = some p.2 ∧ ∀ x, setC id x (D ++ p :: R) = D ++ (id, x) :: R
  | [], R, _, h => by simp [lookC, setC, h]
  | q :: D, R, hD, h => by
    simp only [lookC] at hD
    split at hD
    · cases hD
    · rename_i hq
      obtain ⟨h1, h2⟩ := look_skip (R := R) hD h
      simp only [List.cons_append, lookC, hq, if_false, setC]
      exact ⟨h1, fun x => by rw [h2 x]⟩
theorem look_none_app {id : ByteArray} : ∀ {D R : List (ByteArray × Int)}, lookC id D = none → lookC id (D ++ R) = lookC id R
  | [], R, _ => rfl
  | q :: D, R, hD => by
    simp only [lookC] at hD
    split at hD
    · cases hD
    · rename_i hq
      simp only [List.cons_append, lookC, hq, if_false]
      exact look_none_app hD

theorem refSeen_loop {wid : Nat} {room t : Int} {id : ByteArray} {ks : List Kn} {Q : AV → AS → Prop} (hb : l.length ≤ 1000) (hR : IsRef S wid room l ids v)
    (hk1 : ∀ old e S2, lookC id l = some old → e 8 = .sc (.int .i64 9) → IsRef S2 wid room (setC id (max old t) l) ids v → S2.ro = S.ro → S2.n = S.n → (∀ j, j ∉ ids → S2.heap j = S.heap j) → Sat (fin [.tmp 8] (unw A (some (.ret, st 100 e (fun _ => none) S2)) ks)) Q)
    (hk0 : ∀ e, lookC id l = none → e 0 = .ptr wid 0 0 → e 1 = .sc (.string id) → e 2 = .sc (.int .i64 t) → e 9 = .sc (.int .i64 (atL id l 0 0 : Nat)) → Sat (fin [.tmp 8] (unw A (some (.exit 0, st 100 e (fun _ => none) S)) ks)) Q) :
    ∀ (R D : List (ByteArray × Int)) (a : Nat) (e : Nat → AV) (tm : List Nat), l = D ++ R → tm = [8, 18, 19, 20, 21, 22, 23, 24, 25, 26, 27, 28, 29, 30, 31, 32, 33, 34, 35, 36, 37, 38, 39, 40, 41, 42, 43, 44, 45, 46, 47, 48, 49, 50, 51, 52, 53, 54, 55, 56, 57, 58, 59, 60, 61, 62, 63, 64, 65] →
      lookC id D = none → atL id l 0 0 = atL id R D.length a → e 0 = .ptr wid 0 0 → e 1 = .sc (.string id) → e 2 = .sc (.int .i64 t) → e 9 = .sc (.int .i64 (a : Int)) → e 10 = .sc (.int .i64 D.length) →
      Sat (fin [.tmp 8] (exec A (.loop tm [] f56_l0) (st 100 e (fun _ => none) S) ks)) Q := by
  intro R
  induction R with
  | nil =>
    intro D a e tm hl htm hD ha h0 h1 h2 h9 h10
    rw [exec_loop]
    generalize hkk : Kn.loop tm [] f56_l0 :: ks = kk
    rw [List.append_nil] at hl
    subst hl
    simp [f56_l0, put_apply, htm, h0, h10, opev_ldL hR, hR.lv.len]
    rw [← hkk]; simp
    exact hk0 _ hD (by simp [put_apply, h0]) (by simp [put_apply, h1]) (by simp [put_apply, h2]) (by rw [ha]; simp [put_apply, h9, atL])
  | cons p R ih =>
    intro D a e tm hl htm hD ha h0 h1 h2 h9 h10
    rw [exec_loop]
    generalize hkk : Kn.loop tm [] f56_l0 :: ks = kk
    have hlen : l.length = D.length + (R.length + 1) := by rw [hl]; simp
    have hlt : D.length < l.length := by omega
    have hc : (D.length : Int) < (l.length : Int) := by omega
    have hp : l[D.length]? = some p := by rw [hl]; simp
    obtain ⟨q, hid, hat, hh⟩ := hR.lv.at_ hlt
    have w1 : IntKind.i64.wrap ((D.length : Int) + 1) = ((D.length + 1 : Nat) : Int) := w64 (by omega)
    by_cases hpi : p.1 = id
    · obtain ⟨k1, k2⟩ := look_skip (R := R) hD hpi
      have hro := hR.lv
      have hqr : S.ro ≤ q := by
        rw [hid] at hro
        generalize hv : v = u at hro
        cases hro with
        | arr h ro lt => exact ro
      have hst : ∀ d rg, opev (.st none 1) d rg S [.ptr q D.length 1, .sc (.int .i64 (max p.2 t))] = some (.junk, none, S.set q (some (.rows 2 (entR (setC id (max p.2 t) l))))) := by
        intro d rg
        simp only [opev, hqr, cells_sc, List.all_cons, isCell_sc, List.all_nil, Bool.and_self, List.length_singleton, and_self, if_true, hh, entR_get hp, Option.bind_some]
        have hset : (entR l).set D.length (setCells [.sc (.string p.1), .sc (.int .i64 p.2)] 1 [.sc (.int .i64 (max p.2 t))]) = entR (setC id (max p.2 t) l) := by
          rw [hl, k2]
          simp [entR, setCells, hpi]
        rw [hset]
        simp
      simp [f56_l0, put_apply, htm, h0, h1, h2, h10, opev_ldL hR, hR.lv.len, hc, hat, opev_ld_ptr hh, entR_get hp, hpi, hst]
      rw [← hkk]; simp
      have hqids : ∀ j, j ∉ ids → j ≠ q := fun j hj h => hj (by rw [hid, h]; simp)
      have hsl : (setC id (max p.2 t) l).length = l.length := by rw [hl, k2]; simp
      refine hk1 p.2 _ _ (by rw [hl]; exact k1) (by simp [put_apply]) ⟨by show (if wid = q then _ else _) = _; rw [if_neg (hqids wid hR.ne)]; exact hR.w, ?_, hR.ne, hR.ro, hR.lt, hR.sr⟩ rfl rfl (fun j hj => if_neg (hqids j hj))
      have hlv := hR.lv
      rw [hid] at hlv ⊢
      generalize hv : v = u at hlv ⊢
      cases hlv with
      | arr h ro lt =>
        rw [← hsl]
        exact .arr (by simp [AS.set]) ro lt
    · have hD' : lookC id (D ++ [p]) = none := by rw [look_none_app hD]; simp [lookC, hpi]
      by_cases hless : sLt p.1 id = true
      · simp [f56_l0, put_apply, htm, h0, h1, h2, h10, opev_ldL hR, hR.lv.len, hc, hat, opev_ld_ptr hh, entR_get hp, hpi, hless, w1]
        rw [← hkk, unw_loop]
        exact ih (D ++ [p]) (D.length + 1) _ tm (by rw [hl]; simp) htm hD' (by rw [ha]; simp [atL, hless]) (by simp [put_apply, htm, h0]) (by simp [put_apply, htm, h1]) (by simp [put_apply, htm, h2]) (by simp [put_apply]) (by simp [put_apply])
      · have hless : sLt p.1 id = false := by simpa using hless
        simp [f56_l0, put_apply, htm, h0, h1, h2, h10, opev_ldL hR, hR.lv.len, hc, hat, opev_ld_ptr hh, entR_get hp, hpi, hless, w1]
        rw [← hkk, unw_loop]
        exact ih (D ++ [p]) a _ tm (by rw [hl]; simp) htm hD' (by rw [ha]; simp [atL, hless]) (by simp [put_apply, htm, h0]) (by simp [put_apply, htm, h1]) (by simp [put_apply, htm, h2]) (by simp [put_apply, htm, h9]) (by simp [put_apply])


theorem LV.one {id : Nat} (h : LV S v l [id]) : v = .arr id 2 0 l.length none := by
  cases h; rfl

theorem IsRef.store {wid : Nat} {room : Int} (h : IsRef S wid room l ids v) {u : AV} {l' : List (ByteArray × Int)} {ms : List Nat} (hU : LV S u l' ms) (hms : wid ∉ ms) :
    (∀ d rg, opev (.st none 1) d rg S [.ptr wid 0 1, u] = some (.junk, none, S.set wid (some (.rows 2 [[.sc (.int .i64 room), u]])))) ∧ IsRef (S.set wid (some (.rows 2 [[.sc (.int .i64 room), u]]))) wid room l' ms u := by
  constructor
  · intro d rg
    simp only [opev, h.ro, hU.cells, List.all_cons, hU.cell, List.all_nil, Bool.and_self, List.length_singleton, and_self, if_true, h.w]
    simp [setCells]
  · refine ⟨by simp [AS.set], hU.step ?_ rfl (Nat.le_refl _), hms, h.ro, h.lt, h.sr⟩
    intro j hj
    refine if_neg ?_
    rintro rfl
    exact hms hj

def insR (id : ByteArray) (t : Int) (l : List (ByteArray × Int)) : List (ByteArray × Int) := (l.take (atL id l 0 0) ++ [(id, t)]) ++ l.drop (atL id l 0 0)
def seenR (room : Int) (l : List (ByteArray × Int)) (id : ByteArray) (t now : Int) : Int × List (ByteArray × Int) :=
  if t ≤ now then (5, l) else
  match lookC id (liveC now l) with
  | some old => (9, setC id (max old t) (liveC now l))
  | none => if room ≤ (liveC now l).length then (10, liveC now l) else (0, insR id t (liveC now l))

theorem Frm.trans {wid : Nat} {ids ids1 : List Nat} {S1 S2 : AS} (h : Frm wid ids S S1) (h2 : Frm wid ids1 S1 S2) (hi : ∀ j ∈ ids1, S.n ≤ j) : Frm wid ids S S2 :=
  ⟨h2.ro.trans h.ro, Nat.le_trans h.n h2.n, fun j hj hw hn => by
    rw [h2.heap j (Nat.lt_of_lt_of_le hj h.n) hw (fun hh => by have := hi j hh; omega), h.heap j hj hw hn]⟩

theorem refSeen_spec (hA : HasR7 A) {wid : Nat} {room t now : Int} {id : ByteArray} (hR : IsRef S wid room l ids v) (hb : l.length ≤ 1000) :
    ∃ S' ids' v', docall A (run A) 56 [.ptr wid 0 0, .sc (.string id), .sc (.int .i64 t), .sc (.int .i64 now)] S = some (.sc (.int .i64 (seenR room l id t now).1), S') ∧ IsRef S' wid room (seenR room l id t now).2 ids' v' ∧ Frm wid ids S S' ∧ ∀ j ∈ ids', j ∈ ids ∨ S.n ≤ j := by
  have key : Sat (docall A (run A) 56 [.ptr wid 0 0, .sc (.string id), .sc (.int .i64 t), .sc (.int .i64 now)] S) fun r S' => r = .sc (.int .i64 (seenR room l id t now).1) ∧ ∃ ids' v', IsRef S' wid room (seenR room l id t now).2 ids' v' ∧ Frm wid ids S S' ∧ ∀ j ∈ ids', j ∈ ids ∨ S.n ≤ j := by
    rw [docall_keep hA.n56.1 hA.n56.2.1 hA.n56.2.2 (by simp) (by show 4 ≤ 100; omega)]
    simp only [f56]
    by_cases ht : t ≤ now
    · simp [f56b, put_apply, ht, retRs, retR, seenR]
      exact ⟨ids, ⟨v, hR⟩, ⟨rfl, Nat.le_refl _, fun _ _ _ _ => rfl⟩, fun j hj => .inl hj⟩
    · obtain ⟨S1, ids1, v1, p1, hR1, hF1, hi1⟩ := refPrune_spec hA (now := now) hR hb
      simp [f56b, put_apply, ht, p1]
      have hkl : (liveC now l).length ≤ 1000 := Nat.le_trans live_len hb
      unfold seenR
      rw [if_neg ht]
      generalize liveC now l = k at hR1 hkl
      have hi1' : ∀ j ∈ ids1, S.n ≤ j := hi1
      refine refSeen_loop (ids := ids1) (v := v1) (l := k) (S := S1) (room := room) (t := t) (id := id) hkl hR1 ?_ ?_ k [] 0 _ _ rfl rfl rfl rfl (by simp [put_apply]) (by simp [put_apply]) (by simp [put_apply]) (by simp [put_apply]) (by simp [put_apply])
      · intro old e S2 hl h8 hR2 hro hn hh
        simp [h8, retRs, retR, hl]
        refine ⟨ids1, ⟨v1, hR2⟩, hF1.trans ⟨hro, Nat.le_of_eq hn.symm, fun j _ _ hj => hh j hj⟩ hi1, fun j hj => .inr (hi1 j hj)⟩
      · intro e hl h0 h1 h2 h9
        have hat : atL id k 0 0 ≤ k.length := by have := @atL_le id k 0 0 (Nat.le_refl _); omega
        by_cases hroom : room ≤ k.length
        · simp [put_apply, h0, opev_ldL hR1, opev_ldRm hR1, hR1.lv.len, hroom, retRs, retR, hl]
          exact ⟨ids1, ⟨v1, hR1⟩, hF1, fun j hj => .inr (hi1 j hj)⟩
        · rw [hl]
          simp only [if_neg hroom]
          generalize hins : insR id t k = k'
          unfold insR at hins
          generalize atL id k 0 0 = a at hat h9 hins
          obtain ⟨x1, f1, f2⟩ := hR1.lv.front hat
          obtain ⟨x2, b1, b2⟩ := hR1.lv.back hat
          have f3 := f2 S1 (fun _ _ => rfl)
          have hya : (k.take a).length ≤ 1000 := by simp; omega
          generalize k.take a = ya at f3 hins hya
          obtain ⟨S2, a1, a2, a3, a4, a5⟩ := app_new (S := S1) (x := x1) (ys := ya) hR1.sr f3 (by omega)
          obtain ⟨v3, S3, c1, c2, c3, c4, c5⟩ := a2.push (by have := hR1.sr; omega) (id, t) (by omega)
          have hv3 := c2.one
          subst hv3
          have hyb : (ya ++ [(id, t)]).length ≤ 1001 := by simp; omega
          generalize ya ++ [(id, t)] = yb at c1 c2 hyb hins
          have g3 : ∀ j, j < S1.n → S3.heap j = S1.heap j := fun j hj => by
            rw [c5 j (by omega) (by simp; omega), a5 j hj]
          have hR3 : IsRef S3 wid room k ids1 v1 := hR1.step (g3 _ hR1.lt) (fun j hj => g3 j (hR1.lv.lt j hj)) (by rw [c3, a3]) (by omega)
          obtain ⟨v4, S4, ids4, d1, d2, d3, d4, d5, d6⟩ := app_more c2 (x := x2) (ys := k.drop a) (by have := hR1.sr; omega) (b2 S3 (fun j hj => g3 j (hR1.lv.lt j hj))) (by simp; omega)
          have g4 : ∀ j, j < S1.n → S4.heap j = S1.heap j := fun j hj => by
            rw [d5 j (by omega) (by omega), g3 j hj]
          have hR4 : IsRef S4 wid room k ids1 v1 := hR1.step (g4 _ hR1.lt) (fun j hj => g4 j (hR1.lv.lt j hj)) (by rw [d3, c3, a3]) (by omega)
          have hlt := hR1.lt
          obtain ⟨s1, s2⟩ := hR4.store d2 (fun h => by rcases d6 _ h with h | h <;> omega)
          rw [hins] at s2
          simp [put_apply, h0, h1, h2, h9, opev_ldL hR1, opev_ldRm hR1, hR1.lv.len, hroom, f1, a1, fillR, fillA, c1, opev_ldL hR3, b1, d1, s1, retRs, retR]
          refine ⟨ids4, ⟨v4, s2⟩, hF1.trans (ids1 := ids1) ⟨by show S4.ro = _; rw [d3, c3, a3], by show S1.n ≤ S4.n; omega, fun j hj hw _ => ?_⟩ hi1, fun j hj => .inr ?_⟩
          · show (if j = wid then _ else _) = _
            rw [if_neg hw, g4 j hj]
          · have := hF1.n
            rcases d6 j hj with h | h <;> omega
  obtain ⟨r, S', h1, rfl, ids', v', h2, h3, h4⟩ := key
  exact ⟨S', ids', v', h1, h2, h3, h4⟩

end
end Abs

namespace Abs
open Go

/- the plain law: the document's list is the cache's, in order -/
def bLt (a b : ByteArray) : Prop := a.data.toList < b.data.toList
theorem bLt_trans {a b c : ByteArray} (h1 : bLt a b) (h2 : bLt b c) : bLt a c := List.lt_trans h1 h2
theorem bLt_ne {a b : ByteArray} (h : bLt a b) : a ≠ b := by
  rintro rfl; exact List.lt_irrefl _ h
theorem bLt_or {a b : ByteArray} (h : ¬ bLt a b) (hn : a ≠ b) : bLt b a := by
  have h1 : b.data.toList ≤ a.data.toList := List.not_lt.1 h
  rcases Classical.em (bLt b a) with h2 | h2
  · exact h2
  · have h2' : a.data.toList ≤ b.data.toList := List.not_lt.1 h2
    exact absurd (ba_data (List.le_antisymm h2' h1)) hn
theorem sLt_bLt {a b : ByteArray} : sLt a b = true ↔ bLt a b := by
  rw [sLt_iff]; exact decide_eq_true_iff

structure RelP (lc lr : List (ByteArray × Int)) : Prop where
  pm : lr.Perm lc
  so : lr.Pairwise fun p q => bLt p.1 q.1

theorem nodup_of {l : List (ByteArray × Int)} (h : l.Pairwise fun p q => bLt p.1 q.1) : (l.map (·.1)).Nodup := by
  unfold List.Nodup
  rw [List.pairwise_map]
  exact h.imp fun h => bLt_ne h
theorem RelP.nd {lc lr : List (ByteArray × Int)} (h : RelP lc lr) : (lc.map (·.1)).Nodup := ((h.pm.map _).nodup_iff).1 (nodup_of h.so)
theorem RelP.live {lc lr : List (ByteArray × Int)} (h : RelP lc lr) (now : Int) : RelP (liveC now lc) (liveC now lr) :=
  ⟨h.pm.filter _, h.so.sublist List.filter_sublist⟩
theorem look_memP {id : ByteArray} {v : Int} : ∀ {l : List (ByteArray × Int)}, (l.map (·.1)).Nodup → (lookC id l = some v ↔ (id, v) ∈ l)
  | [], _ => by simp [lookC]
  | p :: l, h => by
    simp only [List.map_cons, List.nodup_cons] at h
    obtain ⟨a, b⟩ := p
    by_cases hp : a = id
    · subst hp
      simp only [lookC, if_true, Option.some.injEq, List.mem_cons, Prod.mk.injEq, true_and]
      constructor
      · intro h; exact .inl h.symm
      · rintro (h' | h')
        · exact h'.symm
        · exact absurd (List.mem_map.2 ⟨_, h', rfl⟩) h.1
    · simp only [lookC, hp, if_false, List.mem_cons, Prod.mk.injEq]
      rw [look_memP h.2]
      constructor
      · exact .inr
      · rintro (⟨h', _⟩ | h')
        · exact absurd h'.symm hp
        · exact h'
theorem RelP.look {lc lr : List (ByteArray × Int)} (h : RelP lc lr) (id : ByteArray) : lookC id lr = lookC id lc := by
  apply Option.ext
  intro v
  rw [look_memP (nodup_of h.so), look_memP h.nd]
  exact h.pm.mem_iff
theorem set_perm {id : ByteArray} {v : Int} : ∀ {l : List (ByteArray × Int)}, (l.map (·.1)).Nodup → (setC id v l).Perm ((id, v) :: l.filter fun p => decide (p.1 ≠ id))
  | [], _ => by simp [setC]
  | p :: l, h => by
    simp only [List.map_cons, List.nodup_cons] at h
    by_cases hp : p.1 = id
    · have : (l.filter fun p => decide (p.1 ≠ id)) = l := by
        rw [List.filter_eq_self]
        intro q hq
        simp only [ne_eq, decide_not, Bool.not_eq_eq_eq_not, Bool.not_true, decide_eq_false_iff_not]
        intro hqi
        exact h.1 (List.mem_map.2 ⟨q, hq, by rw [hqi, hp]⟩)
      simp only [setC, hp, if_true, List.filter_cons, ne_eq, not_true_eq_false, decide_false, Bool.false_eq_true, if_false]
      simp only [ne_eq] at this
      rw [this]
    · simp only [setC, hp, if_false, List.filter_cons, ne_eq, not_false_eq_true, decide_true, if_true]
      have := @set_perm id v l h.2
      simp only [ne_eq] at this
      exact (this.cons p).trans (List.Perm.swap _ _ _)
theorem RelP.set {lc lr : List (ByteArray × Int)} (h : RelP lc lr) {id : ByteArray} {old v : Int} (hl : lookC id lc = some old) : RelP (setC id v lc) (setC id v lr) := by
  refine ⟨(set_perm (nodup_of h.so)).trans (((h.pm.filter _).cons _).trans (set_perm h.nd).symm), ?_⟩
  have hk : (setC id v lr).map (·.1) = lr.map (·.1) := set_keys (old := old) (by rw [h.look]; exact hl)
  have : (lr.map (·.1)).Pairwise bLt := by rw [List.pairwise_map]; exact h.so
  rw [← hk, List.pairwise_map] at this
  exact this

def insS (id : ByteArray) (t : Int) : List (ByteArray × Int) → List (ByteArray × Int)
  | [] => [(id, t)]
  | p :: l => if sLt p.1 id then p :: insS id t l else (id, t) :: p :: l
theorem insS_perm {id : ByteArray} {t : Int} : ∀ {l : List (ByteArray × Int)}, (insS id t l).Perm ((id, t) :: l)
  | [] => List.Perm.refl _
  | p :: l => by
    unfold insS
    split
    · exact ((insS_perm).cons p).trans (List.Perm.swap _ _ _)
    · exact List.Perm.refl _
theorem insS_so {id : ByteArray} {t : Int} : ∀ {l : List (ByteArray × Int)}, (l.Pairwise fun p q => bLt p.1 q.1) → (∀ p ∈ l, p.1 ≠ id) → (insS id t l).Pairwise fun p q => bLt p.1 q.1
  | [], _, _ => by simp [insS]
  | p :: l, h, hn => by
    rw [List.pairwise_cons] at h
    unfold insS
    split
    · rename_i hlt
      rw [List.pairwise_cons]
      refine ⟨fun q hq => ?_, insS_so h.2 fun q hq => hn q (by simp [hq])⟩
      rcases List.mem_cons.1 (insS_perm.mem_iff.1 hq) with rfl | hq
      · exact sLt_bLt.1 hlt
      · exact h.1 q hq
    · rename_i hlt
      have hlt : bLt id p.1 := bLt_or (fun hh => hlt (sLt_bLt.2 hh)) (hn p (by simp))
      rw [List.pairwise_cons, List.pairwise_cons]
      refine ⟨fun q hq => ?_, h⟩
      rcases List.mem_cons.1 hq with rfl | hq
      · exact hlt
      · exact bLt_trans hlt (h.1 q hq)
theorem atL_stop {id : ByteArray} : ∀ {l : List (ByteArray × Int)} {i a : Nat}, (∀ p ∈ l, sLt p.1 id = false) → atL id l i a = a
  | [], i, a, _ => rfl
  | p :: l, i, a, h => by
    have := h p (by simp)
    simp only [atL, this, Bool.false_eq_true, if_false]
    exact atL_stop fun q hq => h q (by simp [hq])
theorem atL_ins {id : ByteArray} {t : Int} : ∀ {l : List (ByteArray × Int)} {i : Nat}, (l.Pairwise fun p q => bLt p.1 q.1) → (∀ p ∈ l, p.1 ≠ id) → ∃ k, atL id l i i = i + k ∧ (l.take k ++ [(id, t)]) ++ l.drop k = insS id t l
  | [], i, _, _ => ⟨0, rfl, rfl⟩
  | p :: l, i, h, hn => by
    rw [List.pairwise_cons] at h
    by_cases hlt : sLt p.1 id = true
    · obtain ⟨k, h1, h2⟩ := @atL_ins id t l (i + 1) h.2 fun q hq => hn q (by simp [hq])
      refine ⟨k + 1, ?_, ?_⟩
      · simp only [atL, hlt, if_true, h1]; omega
      · simp only [insS, hlt, if_true, ← h2]; simp
    · have hlt' : bLt id p.1 := bLt_or (fun hh => hlt (sLt_bLt.2 hh)) (hn p (by simp))
      have hlf : sLt p.1 id = false := by simpa using hlt
      refine ⟨0, ?_, ?_⟩
      · simp only [atL, hlf, Bool.false_eq_true, if_false]
        refine atL_stop fun q hq => ?_
        have := bLt_trans hlt' (h.1 q hq)
        rw [Bool.eq_false_iff]
        intro hh
        exact List.lt_irrefl _ (bLt_trans this (sLt_bLt.1 hh))
      · simp [insS, hlf]
theorem look_none_mem {id : ByteArray} : ∀ {l : List (ByteArray × Int)}, lookC id l = none → ∀ p ∈ l, p.1 ≠ id
  | [], _, p, hp => by cases hp
  | q :: l, h, p, hp => by
    simp only [lookC] at h
    split at h
    · cases h
    · rename_i hq
      rcases List.mem_cons.1 hp with rfl | hp
      · exact hq
      · exact look_none_mem h p hp
theorem RelP.ins {lc lr : List (ByteArray × Int)} (h : RelP lc lr) {id : ByteArray} {t : Int} (hl : lookC id lc = none) : RelP (setC id t lc) (insR id t lr) := by
  have hn := look_none_mem (l := lr) (id := id) (by rw [h.look]; exact hl)
  obtain ⟨k, h1, h2⟩ := @atL_ins id t lr 0 h.so hn
  unfold insR
  rw [h1, Nat.zero_add, h2, set_new hl]
  exact ⟨(insS_perm.trans ((h.pm.cons _))).trans (List.perm_append_comm (l₁ := [(id, t)])), insS_so h.so hn⟩
theorem RelP.seen {lc lr : List (ByteArray × Int)} (h : RelP lc lr) (room : Int) (id : ByteArray) (t now : Int) : (seenR room lr id t now).1 = (seenC room lc id t now).1 ∧ RelP (seenC room lc id t now).2 (seenR room lr id t now).2 := by
  have h1 := h.live now
  unfold seenR seenC
  split
  · exact ⟨rfl, h⟩
  · rw [h1.look]
    cases hl : lookC id (liveC now lc) with
    | some old => exact ⟨rfl, h1.set hl⟩
    | none =>
      simp only
      rw [h1.pm.length_eq]
      split
      · exact ⟨rfl, h1⟩
      · exact ⟨rfl, h1.ins hl⟩
theorem RelP.keys {lc lr : List (ByteArray × Int)} (h : RelP lc lr) : sortB (lc.map (·.1)) = lr.map (·.1) := by
  refine sortB_eq (h.pm.map _) ?_
  rw [List.pairwise_map]
  exact h.so.imp fun h => List.le_of_lt h

end Abs

namespace Abs
open Go

structure Both (S : AS) (cid mid wid : Nat) (r : Int) (lc lr : List (ByteArray × Int)) (ids : List Nat) (v : AV) : Prop where
  a : IsCache S cid mid r lc
  b : IsRef S wid r lr ids v
  rel : RelP lc lr
  n1 : wid ≠ cid
  n2 : wid ≠ mid
  n3 : cid ∉ ids
  n4 : mid ∉ ids

section
variable {A : AProg} {S S' : AS} {cid mid wid : Nat} {r : Int} {lc lr : List (ByteArray × Int)} {ids : List Nat} {v : AV}

theorem newW_spec (hA : HasR7 A) {room : Int} (hn : S.ro ≤ S.n) : docall A (run A) 54 [.sc (.int .i64 room)] S = some (.ptr S.n 0 0, S.new (.rows 2 [[.sc (.int .i64 (max room 0)), .lst 0 true []]])) ∧
    IsRef (S.new (.rows 2 [[.sc (.int .i64 (max room 0)), .lst 0 true []]])) S.n (max room 0) [] [] (.lst 0 true []) := by
  constructor
  · rw [docall_keep hA.n54.1 hA.n54.2.1 hA.n54.2.2 rfl (by show 1 ≤ 8; omega)]
    by_cases h : room < 0
    · have : max room 0 = 0 := by omega
      simp [f54, f54b, put_apply, retRs, retR, opev, fillA, AS.new, h, this]
    · have : max room 0 = room := by omega
      simp [f54, f54b, put_apply, retRs, retR, opev, fillA, AS.new, h, this]
  · exact ⟨by simp [AS.new], .nil, by simp, hn, Nat.lt_succ_self _, Nat.le_succ_of_le hn⟩

/- what stands in the reference's list -/
theorem ref_at (h : IsRef S wid r lr ids v) {i : Nat} {p : ByteArray × Int} (hp : lr[i]? = some p) : ∃ id, pev (.iaddr 2) [v, .sc (.int .i64 (i : Int))] = some (.ptr id i 0) ∧ ∀ d rg, opev (.ld none 1 false) d rg S [.ptr id i 0] = some (.sc (.string p.1), none, S) := by
  obtain ⟨id, _, h2, h3⟩ := h.lv.at_ (List.getElem?_eq_some_iff.1 hp).1
  refine ⟨id, h2, fun d rg => ?_⟩
  rw [opev_ld_ptr h3]
  simp [entR_get hp]

theorem same_loop {ks : List Kn} {all : AV} {N : Nat} (hb : lr.length ≤ 1000) (h : IsRef S wid r lr ids v)
    (l1 : pev .lenL [all] = some (.sc (.int .i64 lr.length)))
    (a1 : ∀ i, i < lr.length → pev (.iaddr 1) [all, .sc (.int .i64 (i : Int))] = some (.ptr N i 0))
    (d1 : ∀ i x d rg, (lr.map (·.1))[i]? = some x → opev (.ld none 1 false) d rg S [.ptr N i 0] = some (.sc (.string x), none, S)) {res : Option (AV × AS)}
    (hk : ∀ e, fin [.tmp 4] (unw A (some (.exit 0, st 46 e (fun _ => none) S)) ks) = res) :
    ∀ (n i : Nat) (e : Nat → AV) (tm : List Nat), n + i = lr.length → tm = [4, 27, 28, 29, 30, 31, 32, 33, 34, 35, 36, 37, 38, 39, 40, 41, 42, 43, 44, 45] → e 1 = .ptr wid 0 0 → e 5 = all → e 6 = .sc (.int .i64 i) →
      fin [.tmp 4] (exec A (.loop tm [] f57_l0) (st 46 e (fun _ => none) S) ks) = res := by
  intro n
  induction n with
  | zero =>
    intro i e tm hn htm h1 h5 h6
    rw [exec_loop]
    generalize hkk : Kn.loop tm [] f57_l0 :: ks = kk
    have hc : ¬ (i : Int) < lr.length := by omega
    simp [f57_l0, put_apply, htm, h5, h6, l1, hc]
    rw [← hkk]; simp
    exact hk _
  | succ n ih =>
    intro i e tm hn htm h1 h5 h6
    rw [exec_loop]
    generalize hkk : Kn.loop tm [] f57_l0 :: ks = kk
    have hc : (i : Int) < lr.length := by omega
    have hlt : i < lr.length := by omega
    obtain ⟨p, hp⟩ : ∃ p, lr[i]? = some p := ⟨lr[i], by simp [hlt]⟩
    obtain ⟨id, q1, q2⟩ := ref_at h hp
    have d := fun d rg => d1 i p.1 d rg (by simp [hp])
    have w1 : IntKind.i64.wrap ((i : Int) + 1) = ((i + 1 : Nat) : Int) := w64 (by omega)
    simp [f57_l0, put_apply, htm, h1, h5, h6, l1, hc, a1 i hlt, d, opev_ldL h, q1, q2, w1]
    rw [← hkk, unw_loop]
    exact ih (i + 1) _ tm (by omega) htm (by simp [put_apply, htm, h1]) (by simp [put_apply, htm, h5]) (by simp [put_apply])

theorem Both.later (h : Both S cid mid wid r lc lr ids v) (hh : ∀ j, j < S.n → S'.heap j = S.heap j) (hr : S'.ro = S.ro) (hn : S.n ≤ S'.n) : Both S' cid mid wid r lc lr ids v :=
  ⟨h.a.step (hh _ h.a.ltc) (hh _ h.a.ltm) hr hn, h.b.step (hh _ h.b.lt) (fun j hj => hh j (h.b.lv.lt j hj)) hr hn, h.rel, h.n1, h.n2, h.n3, h.n4⟩

theorem same_spec (hA : HasR7 A) (h : Both S cid mid wid r lc lr ids v) (hb : lr.length ≤ 1000) : docall A (run A) 57 [.ptr cid 0 0, .ptr wid 0 0] S = some (.sc (.bool true), allS S (lc.map (·.1))) := by
  have hlen : lc.length = lr.length := h.rel.pm.length_eq.symm
  have a1 := all_spec hA.toHasR2 h.a (by omega)
  have h1 := h.later (S' := allS S (lc.map (·.1))) (fun j hj => allS_heap hj) allS_ro allS_n
  have hi : IsAll (allS S (lc.map (·.1))) S.n (lc.map (·.1)) := isAll_allS
  have hk := h.rel.keys
  have hkl : (lc.map (·.1)).length = lr.length := by simp [hlen]
  generalize lc.map (·.1) = kys at *
  have l1 := len_spec hA.toHasR h1.a
  rw [hlen] at l1
  rw [docall_keep hA.n57.1 hA.n57.2.1 hA.n57.2.2 (by simp) (by show 2 ≤ 46; omega)]
  simp only [f57]
  simp [f57b, put_apply, a1, l1, opev_ldL h1.b, h1.b.lv.len, hkl]
  refine same_loop (S := allS S kys) (N := S.n + kys.length) (all := allV S kys) hb h1.b (by rw [← hkl]; simp) (by rw [← hkl]; exact fun i hi => allV_at hi) (by rw [← hk]; exact all_ld hi) ?_ lr.length 0 _ _ (by omega) rfl (by simp [put_apply]) (by simp [put_apply]) (by simp [put_apply])
  intro e
  simp [put_apply, retRs, retR]

theorem Both.prune (hA : HasR7 A) (h : Both S cid mid wid r lc lr ids v) (hb : lr.length ≤ 1000) (now : Int) : ∃ S' ids' v', docall A (run A) 55 [.ptr wid 0 0, .sc (.int .i64 now)] (setM S mid (liveC now lc) 1) = some (.sc (.int .i64 (IntKind.i64.wrap (lc.length - (liveC now lc).length))), S') ∧ Both S' cid mid wid r (liveC now lc) (liveC now lr) ids' v' := by
  have hb1 : IsRef (setM S mid (liveC now lc) 1) wid r lr ids v := h.b.step (if_neg h.n2) (fun j hj => if_neg (by rintro rfl; exact h.n4 hj)) rfl (Nat.le_succ _)
  have ha1 := h.a.setM (liveC now lc) 1
  obtain ⟨S', ids', v', q1, q2, q3, q4⟩ := refPrune_spec hA (now := now) hb1 hb
  have e1 : lr.length = lc.length := h.rel.pm.length_eq
  have e2 : (liveC now lr).length = (liveC now lc).length := (h.rel.live now).pm.length_eq
  rw [e1, e2] at q1
  refine ⟨S', ids', v', q1, ha1.step (q3.heap _ ha1.ltc (Ne.symm h.n1) h.n3) (q3.heap _ ha1.ltm (Ne.symm h.n2) h.n4) q3.ro q3.n, q2, h.rel.live now, h.n1, h.n2, fun hh => ?_, fun hh => ?_⟩
  · have := q4 _ hh; have := ha1.ltc; omega
  · have := q4 _ hh; have := ha1.ltm; omega

theorem Both.seen (hA : HasR7 A) (h : Both S cid mid wid r lc lr ids v) (hb : lr.length ≤ 1000) (id : ByteArray) (t now : Int) : ∃ S' ids' v', docall A (run A) 56 [.ptr wid 0 0, .sc (.string id), .sc (.int .i64 t), .sc (.int .i64 now)] (if t ≤ now then S else setM S mid (seenC r lc id t now).2 1) = some (.sc (.int .i64 (seenC r lc id t now).1), S') ∧ Both S' cid mid wid r (seenC r lc id t now).2 (seenR r lr id t now).2 ids' v' := by
  generalize hS1 : (if t ≤ now then S else setM S mid (seenC r lc id t now).2 1) = S1
  have ha1 : IsCache S1 cid mid r (seenC r lc id t now).2 := by
    rw [← hS1]
    split
    · rename_i ht
      rw [show (seenC r lc id t now).2 = lc by unfold seenC; rw [if_pos ht]]
      exact h.a
    · exact h.a.setM _ 1
  have hb1 : IsRef S1 wid r lr ids v := by
    rw [← hS1]
    split
    · exact h.b
    · exact h.b.step (if_neg h.n2) (fun j hj => if_neg (by rintro rfl; exact h.n4 hj)) rfl (Nat.le_succ _)
  obtain ⟨S', ids', v', q1, q2, q3, q4⟩ := refSeen_spec hA (id := id) (t := t) (now := now) hb1 hb
  obtain ⟨e1, e2⟩ := h.rel.seen r id t now
  rw [e1] at q1
  refine ⟨S', ids', v', q1, ha1.step (q3.heap _ ha1.ltc (Ne.symm h.n1) h.n3) (q3.heap _ ha1.ltm (Ne.symm h.n2) h.n4) q3.ro q3.n, q2, e2, h.n1, h.n2, fun hh => ?_, fun hh => ?_⟩
  · rcases q4 _ hh with hh | hh
    · exact h.n3 hh
    · have := ha1.ltc; omega
  · rcases q4 _ hh with hh | hh
    · exact h.n4 hh
    · have := ha1.ltm; omega

theorem plays_loop (hA : HasR7 A) {L : List Stp} {ks : List Kn} (hL : L.length ≤ maxLen)
    (hk : ∀ e S, e 5 = .sc (.bool true) → Tru (fin [.tmp 4] (unw A (some (.exit 0, st 70 e (fun _ => none) S)) ks))) :
    ∀ (n i : Nat) (e : Nat → AV) (rg : Nat → Option (List AV)) (S : AS) (lc lr : List (ByteArray × Int)) (ids : List Nat) (v : AV) (tm : List Nat), n + i = min L.length 100 → tm = [4, 9, 10, 18, 19, 20, 21, 22, 23, 24, 25, 26, 27, 28, 29, 30, 31, 32, 33, 34, 35, 36, 37, 38, 39, 40, 41, 42, 43, 44, 45, 46, 47, 48, 49, 50, 51, 52, 53, 54, 55, 56, 57, 58, 59, 60, 61, 62, 63, 64, 65, 66, 67, 68] →
      fgtR [9] rg = (fun _ => none) → NR tm e → e 1 = stpA L → e 5 = .sc (.bool true) → e 6 = .ptr cid 0 0 → e 7 = .ptr wid 0 0 → e 8 = .sc (.int .i64 i) → Both S cid mid wid r lc lr ids v → lc.length ≤ i →
      Tru (fin [.tmp 4] (exec A (.loop tm [9] f7_l0) (st 70 e rg S) ks)) := by
  intro n
  induction n with
  | zero =>
    intro i e rg S lc lr ids v tm hn htm hrg hr h1 h5 h6 h7 h8 hT hl
    rw [exec_loop_rg hr, hrg]
    generalize hkk : Kn.loop tm [9] f7_l0 :: ks = kk
    by_cases hc : (i : Int) < L.length
    · have hi : ¬ (i : Int) < 100 := by omega
      simp [f7_l0, put_apply, htm, h1, h8, stpA, hc, hi]
      rw [← hkk]; simp
      exact hk _ _ (by simp [put_apply, h5])
    · simp [f7_l0, put_apply, htm, h1, h8, stpA, hc]
      rw [← hkk]; simp
      exact hk _ _ (by simp [put_apply, h5])
  | succ n ih =>
    intro i e rg S lc lr ids v tm hn htm hrg hr h1 h5 h6 h7 h8 hT hl
    rw [exec_loop_rg hr, hrg]
    generalize hkk : Kn.loop tm [9] f7_l0 :: ks = kk
    have hc : (i : Int) < L.length := by omega
    have hi : (i : Int) < 100 := by omega
    have hlt : i < L.length := by omega
    obtain ⟨s, hs⟩ : ∃ s, L[i]? = some s := ⟨L[i], by simp [hlt]⟩
    have w1 : IntKind.i64.wrap ((i : Int) + 1) = ((i + 1 : Nat) : Int) := w64 (by omega)
    have hR := hA.toHasR
    have hlr : lr.length = lc.length := hT.rel.pm.length_eq
    by_cases hpr : s.prune = true
    · obtain ⟨S1, ids1, v1, p1, hT1⟩ := hT.prune hA (by omega) s.now
      have p0 := prune_spec hR hT.a (now := s.now)
      have hlr1 : (liveC s.now lr).length = (liveC s.now lc).length := hT1.rel.pm.length_eq
      have hll : (liveC s.now lc).length ≤ lc.length := live_len
      have s1 := same_spec hA hT1 (by omega)
      simp [f7_l0, put_apply, htm, h1, h5, h6, h7, h8, stpA, hc, hi, hs, Stp.row, setCells, upd_apply, hpr, p0, p1, s1, w1]
      rw [← hkk, unw_loop]
      exact ih (i + 1) _ _ _ _ _ _ _ tm (by omega) htm (by simp [fgtR_upd]) (by subst htm; repeat (first | exact NR_fgt' hr | refine NR_put ?_ rfl)) (by simp [put_apply, htm, h1]) (by simp [put_apply, htm, h5]) (by simp [put_apply, htm, h6]) (by simp [put_apply, htm, h7]) (by simp [put_apply]) (hT1.later (fun j hj => allS_heap hj) allS_ro allS_n) (by omega)
    · have hpr : s.prune = false := by simpa using hpr
      generalize hown : cutS s.id 20 = own
      have k1 := @seen_len r lc own s.till s.now
      obtain ⟨S1, ids1, v1, p1, hT1⟩ := hT.seen hA (by omega) own s.till s.now
      have p0 := seen_spec hR hT.a (id := own) (t := s.till) (now := s.now)
      have hlr1 := hT1.rel.pm.length_eq
      have s1 := same_spec hA hT1 (by omega)
      simp [f7_l0, put_apply, htm, h1, h5, h6, h7, h8, stpA, hc, hi, hs, Stp.row, setCells, upd_apply, hpr, hown, p0, p1, s1, w1]
      rw [← hkk, unw_loop]
      exact ih (i + 1) _ _ _ _ _ _ _ tm (by omega) htm (by simp [fgtR_upd]) (by subst htm; repeat (first | exact NR_fgt' hr | refine NR_put ?_ rfl)) (by simp [put_apply, htm, h1]) (by simp [put_apply, htm, h5]) (by simp [put_apply, htm, h6]) (by simp [put_apply, htm, h7]) (by simp [put_apply]) (hT1.later (fun j hj => allS_heap hj) allS_ro allS_n) (by omega)

theorem plays_law (hA : HasR7 A) {S : AS} (hn : S.ro ≤ S.n) (room : Int) (L : List Stp) (hL : L.length ≤ maxLen) : Tru (docall A (run A) 7 [.sc (.int .i64 room), stpA L] S) := by
  obtain ⟨S1, hs, r1, n1⟩ := shown_spec hA.toHasR0 hn
  have hR := hA.toHasR
  have h0 : IsCache (newR S1 room) (S1.n + 1) S1.n (max room 0) [] := newR_C (by omega)
  have hro : (newR S1 room).ro ≤ (newR S1 room).n := by show S1.ro ≤ S1.n + 2; omega
  obtain ⟨w1, w2⟩ := newW_spec hA (S := newR S1 room) (room := room) hro
  have hT : Both ((newR S1 room).new (.rows 2 [[.sc (.int .i64 (max room 0)), .lst 0 true []]])) (S1.n + 1) S1.n (S1.n + 2) (max room 0) [] [] [] (.lst 0 true []) := by
    refine ⟨h0.step (if_neg ?_) (if_neg ?_) rfl (Nat.le_succ _), w2, ⟨List.Perm.refl _, List.Pairwise.nil⟩, by omega, by omega, by simp, by simp⟩
    · show ¬ S1.n + 1 = S1.n + 2; omega
    · show ¬ S1.n = S1.n + 2; omega
  have hnn : (newR S1 room).n = S1.n + 2 := rfl
  rw [hnn] at w1
  rw [docall_keep hA.n7.1 hA.n7.2.1 hA.n7.2.2 (by simp [stpA]) (by show 2 ≤ 70; omega)]
  simp only [f7]
  simp [f7b, put_apply, hs, new_spec hR, w1]
  refine plays_loop hA (L := L) (r := max room 0) (cid := S1.n + 1) (mid := S1.n) (wid := S1.n + 2) hL ?_ (min L.length 100) 0 _ _ _ [] [] [] _ _ (by omega) rfl (by simp) (by repeat (first | exact NR_ini (by simp [stpA]) | refine NR_put ?_ rfl)) (by simp [put_apply, stpA]) (by simp [put_apply]) (by simp [put_apply]) (by simp [put_apply]) (by simp [put_apply]) hT (by simp)
  intro e S e5
  simp [put_apply, e5, retRs, retR]

end
end Abs
