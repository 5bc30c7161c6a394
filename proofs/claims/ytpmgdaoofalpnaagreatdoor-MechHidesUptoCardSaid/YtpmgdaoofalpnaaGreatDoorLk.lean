/- Terms in order: Canon leaves them. -/
import Derived.Test.YtpmgdaoofalpnaaGreatDoorSq
import Derived.Test.YtpmgdaoofalpnaaGreatDoorSr
import Derived.Test.YtpmgdaoofalpnaaGreatDoorSp
set_option linter.unusedVariables false
set_option linter.unusedSimpArgs false
set_option linter.unusedSectionVars false
namespace Abs
open Go

/- rightly built, and not too large to be told -/
structure T.tidy (t : T) : Prop where
  right : t.right = true
  bulk : t.bulk ≤ 1099511627776
theorem T.tidy.kid {t u : T} (h : t.tidy) (hu : u ∈ t.kids) : u.tidy := by
  obtain ⟨h1, h2, h3⟩ := T.right_iff.1 h.right
  rw [t.rshp_def, Bool.and_eq_true] at h1
  rw [t.ord_def, Bool.and_eq_true, ordL_all, List.all_eq_true] at h3
  exact ⟨T.right_iff.2 ⟨rshpL_iff.1 h1.2 u hu, by have := T.dp_kid hu; omega, h3.2 u hu⟩, by have := T.bulk_kid hu; have := h.bulk; omega⟩
theorem T.tidy.txt {t : T} (h : t.tidy) : t.txt = t.text := by
  obtain ⟨h1, h2, h3⟩ := T.right_iff.1 h.right
  unfold T.txt
  rw [if_pos]; rw [h1]; simpa using h2
theorem T.tidy.fits {t : T} (h : t.tidy) : t.fits := T.fits_bulk h.bulk
theorem set_same {S : AS} {id : Nat} {o : Option AObj} (h : S.heap id = o) : S.set id o = S := by
  unfold AS.set
  obtain ⟨hp, n, ro⟩ := S
  simp only [AS.mk.injEq, and_true]
  funext j
  split
  · rename_i e; rw [e]; exact h.symm
  · rfl
theorem T.tidy.share {t a b : T} (h : t.tidy) (h9 : t.kind = 9) (hab : t.kids = [a, b]) : sLt b.text a.text = false := by
  obtain ⟨h1, h2, h3⟩ := T.right_iff.1 h.right
  rw [t.ord_def, Bool.and_eq_true, hab] at h3
  have := h3.1
  unfold shareOk at this
  rw [if_pos h9] at this
  simpa using this
section
set_option maxHeartbeats 2000000 in
theorem canon254 : ∀ (n : Nat) (t : T) (S : AS), sizeOf t < n → t.tidy → call 254 [.agg t.cells] S = some (.agg t.cells, S)
  | 0, _, _, h, _ => by omega
  | n + 1, t, S, hn, ht => by
    have ih : ∀ u ∈ t.kids, ∀ S, call 254 [.agg u.cells] S = some (.agg u.cells, S) := fun u hu S => canon254 n u S (by have := T.kid_lt hu; omega) (ht.kid hu)
    have hb := ht.bulk
    have hlen := t.bulk_len
    rw [call_calm a254 rfl (by simp) rfl]
    obtain ⟨S1, hS1⟩ : ∃ S1, S1 = AS.new ⟨S.heap, S.n, S.n⟩ (.rows 3 (t.kids.map T.cells)) := ⟨_, rfl⟩
    have e256 : call 256 [lstT t.kids] ⟨S.heap, S.n, S.n⟩ = some (.arr S.n 3 0 t.kids.length none, S1) := by
      rw [c256 (by simp), hS1]
      simp [cloneG, lstT_rows]
      omega
    have hh : S1.heap S.n = some (.rows 3 (t.kids.map T.cells)) := by rw [hS1]; exact heap_new
    have hro1 : S1.ro = S.n := by rw [hS1]; rfl
    have hcell : [AV.sc (.int .i64 t.kind), .sc (.string t.name), .arr S.n 3 0 t.kids.length none].all AV.isCell = true := rfl
    have hset : List.take 2 t.cells ++ AV.arr S.n 3 0 t.kids.length none :: List.drop 3 t.cells = [AV.sc (.int .i64 t.kind), .sc (.string t.name), .arr S.n 3 0 t.kids.length none] := by rw [cells_T]; rfl
    have hfin := @calm_mk_arr S S1 t.kind t.name S.n 0 t.kids.length none t.kids (by
      have := @slice_of S1 S.n S.n 3 _ hh (Nat.le_refl _)
      simpa using this)
    have htt : T.mk t.kind t.name t.kids = t := by cases t; rfl
    rw [htt] at hfin
    simp only [f254]
    simp [-calmR_some, f254b, e256, hset]
    refine loop_genR (α := Nat) (R := fun _ r => calmR S r = some (.agg t.cells, S)) (fun i e rg S' => i ≤ t.kids.length ∧ S' = S1 ∧ NQ [3, 4, 13, 14, 15, 16, 17, 18, 19, 20, 21, 22, 23] [4] e ∧ e 1 = .reg 1 0 ∧ rg 1 = some [.sc (.int .i64 t.kind), .sc (.string t.name), .arr S.n 3 0 t.kids.length none] ∧ e 2 = .reg 2 0 ∧ (∃ z, rg 2 = some z ∧ z.length = 3) ∧
      e 10 = .arr S.n 3 0 t.kids.length none ∧ e 11 = .sc (.int .i64 (t.kids.length : Nat)) ∧ e 12 = .sc (.int .i64 (i : Nat))) (fun i => t.kids.length - i) (fun _ _ _ _ h => h.2.2.1) ?_ 0 _ _ _ ?_
    rotate_left
    · refine ⟨by omega, rfl, ?_, by simp, by simp, by simp, ⟨[.i 0, .s ⟨#[]⟩, .lst 0 true []], by simp, rfl⟩, by simp, by simp, by simp⟩
      repeat (first | exact NQ_ini rfl | refine NQ_put ?_ (by simp))
    intro kk hkk i e rg S' ⟨hi, hS', hq, g1, q1, g2, ⟨z, q2, hz⟩, g10, g11, g12⟩ ihl
    subst hS'
    by_cases hc : i < t.kids.length
    · obtain ⟨u, hu⟩ := get_of_lt hc
      have w2 : IntKind.i64.wrap ((i : Int) + 1) = ((i + 1 : Nat) : Int) := w64 (by omega)
      have e254 := ih u (List.mem_of_getElem? hu)
      have hci : (i : Int) < (t.kids.length : Int) := by omega
      have hia : pev (.iaddr 3) [.arr S.n 3 0 t.kids.length none, .sc (.int .i64 (i : Int))] = some (.ptr S.n i 0) := by simp [pev]; omega
      have hrow : (t.kids.map T.cells)[i]? = some u.cells := by simp [hu]
      have hld : ∀ d rg, opev (.ld none 3 true) d rg S' [.ptr S.n i 0] = some (.agg u.cells, none, S') := fun d rg => ld_rows hh hrow (by simp)
      have hst : ∀ d rg, opev (.st none 3) d rg S' [.ptr S.n i 0, .agg u.cells] = some (.junk, none, S') := fun d rg => by
        have hsame : (t.kids.map T.cells).set i (setCells u.cells 0 u.cells) = t.kids.map T.cells := by
          have e : setCells u.cells 0 u.cells = u.cells := by simp [setCells]
          rw [e]
          apply List.ext_getElem?
          intro j
          rw [List.getElem?_set]
          split
          · rename_i h; subst h; rw [hrow]; simp; omega
          · rfl
        have hss := set_same hh
        have hcs : (AV.agg u.cells).cells = u.cells := rfl
        simp only [opev, hro1, Nat.le_refl, hcs, T.cell_cells, T.len_cells, and_self, if_true, hh, hrow, Option.bind_some, Nat.zero_add, hsame, hss]
      simp [-calmR_some, f254_l0, g1, q1, g10, g11, g12, hci, hia, hld, hst, e254, w2]
      refine ihl (i + 1) _ _ _ (by omega) (fun _ h => h) ?_
      refine ⟨by omega, rfl, ?_, by simp [g1], by simp [q1], by simp [g2], ⟨z, by simp [q2], hz⟩, by simp [g10], by simp [g11], by simp⟩
      repeat (first | exact NQ_fgt hq | refine NQ_put ?_ (by simp))
    · have hi' : i = t.kids.length := by omega
      subst hi'
      simp [-calmR_some, f254_l0, g11, g12]
      rw [hkk]
      by_cases h9 : t.kind = 9
      · by_cases h2 : t.kids.length = 2
        · obtain ⟨a, b, hab⟩ : ∃ a b, t.kids = [a, b] := by
            match hl : t.kids, h2 with
            | [a, b], _ => exact ⟨a, b, rfl⟩
          have ha := ht.kid (u := a) (by rw [hab]; simp)
          have hbb := ht.kid (u := b) (by rw [hab]; simp)
          have e229 := fun S => @s229 S b a hbb.bulk ha.bulk
          rw [hbb.txt, ha.txt, ht.share h9 hab] at e229
          have hia0 : pev (.iaddr 3) [.arr S.n 3 0 t.kids.length none, .i 0] = some (.ptr S.n 0 0) := by rw [h2]; rfl
          have hia1 : pev (.iaddr 3) [.arr S.n 3 0 t.kids.length none, .i 1] = some (.ptr S.n 1 0) := by rw [h2]; rfl
          have hld0 : ∀ d rg, opev (.ld none 3 true) d rg S' [.ptr S.n 0 0] = some (.agg a.cells, none, S') := fun d rg => ld_rows hh (by rw [hab]; rfl) (by simp)
          have hld1 : ∀ d rg, opev (.ld none 3 true) d rg S' [.ptr S.n 1 0] = some (.agg b.cells, none, S') := fun d rg => ld_rows hh (by rw [hab]; rfl) (by simp)
          have h2' : (t.kids.length : Int) = 2 := by omega
          simp [-calmR_some, g1, q1, g2, q2, hz, eq_true h9, h2', hia0, hia1, hld0, hld1, e229]
          simpa [-calmR_some] using hfin
        · have h2' : ¬ (t.kids.length : Int) = 2 := by omega
          simp [-calmR_some, g1, q1, g2, q2, hz, eq_true h9, h2']
          simpa [-calmR_some] using hfin
      · simp [-calmR_some, g1, q1, g2, q2, hz, h9]
        simpa [-calmR_some] using hfin
theorem s254 {t : T} {S : AS} (h : t.tidy) : call 254 [.agg t.cells] S = some (.agg t.cells, S) := canon254 _ t S (Nat.lt_succ_self _) h
end
end Abs

namespace Abs
open Go

def inL (L : List T) (t : T) : Bool := L.any fun u => u.same t
theorem inL_iff {L : List T} {t : T} : inL L t = true ↔ t ∈ L := by
  unfold inL
  rw [List.any_eq_true]
  constructor
  · rintro ⟨u, hu, h⟩; rw [← T.same_iff.1 h]; exact hu
  · intro h; exact ⟨t, h, T.same_self t⟩
mutual
def mkP (L : List T) : T → Bool
  | .mk k n l => inL L (.mk k n l) || (if k = 1 then true else if k = 2 then false else if k = 9 then shP L l else mkPL L l)
def mkPL (L : List T) : List T → Bool
  | [] => true
  | t :: l => mkP L t && mkPL L l
def shP (L : List T) : List T → Bool
  | a :: b :: _ => (mkP L a && (inL L (tPub b) || mkP L b)) || (mkP L b && (inL L (tPub a) || mkP L a))
  | _ => false
end
theorem mkP_def {L : List T} : ∀ t : T, mkP L t = (inL L t || (if t.kind = 1 then true else if t.kind = 2 then false else if t.kind = 9 then shP L t.kids else mkPL L t.kids))
  | .mk _ _ _ => by rw [mkP]; rfl
theorem mkPL_all {L : List T} : ∀ {l : List T}, mkPL L l = l.all (mkP L)
  | [] => by rw [mkPL]; rfl
  | t :: l => by rw [mkPL, mkPL_all]; rfl
theorem mkP_pub {L : List T} {y : T} : mkP L (tPub y) = (inL L (tPub y) || mkP L y) := by
  rw [mkP_def]
  show (inL L (tPub y) || mkPL L [y]) = _
  rw [mkPL_all]; simp

/- the entries of the maps -/
def entI (L : List T) : List (Value × AV) := L.map fun t => (.string t.text, .sc (.bool true))
def entM (M : List (ByteArray × Bool)) : List (Value × AV) := M.map fun p => (.string p.1, .sc (.bool p.2))
theorem findK_str {s : ByteArray} : ∀ {M : List (ByteArray × Bool)} {i : Nat}, (∃ f, findK (.string s) (entM M) i = some f ∧
    ((f = none ∧ ∀ p ∈ M, p.1 ≠ s) ∨ ∃ j b, f = some (j, .sc (.bool b)) ∧ i ≤ j ∧ M[j - i]? = some (s, b)))
  | [], i => ⟨none, rfl, .inl ⟨rfl, fun p hp => by cases hp⟩⟩
  | (x, b) :: M, i => by
    have e : entM ((x, b) :: M) = (.string x, .sc (.bool b)) :: entM M := rfl
    rw [e, findK]
    by_cases h : s = x
    · subst h
      have h1 : sameKey (.string s) (.string s) = some true := by simp only [sameKey]; rw [ba_beq.2 rfl]
      rw [h1]
      exact ⟨_, rfl, .inr ⟨i, b, rfl, Nat.le_refl _, by simp⟩⟩
    · have h1 : sameKey (.string s) (.string x) = some false := by
        simp only [sameKey, Option.some.injEq]
        rw [Bool.eq_false_iff]; exact fun e => h (ba_beq.1 e)
      rw [h1]
      obtain ⟨f, hf, hc⟩ := @findK_str s M (i + 1)
      refine ⟨f, hf, ?_⟩
      rcases hc with ⟨hn, hall⟩ | ⟨j, c, hj, hle, hg⟩
      · refine .inl ⟨hn, fun p hp => ?_⟩
        rcases List.mem_cons.1 hp with rfl | hp
        · exact fun e => h e.symm
        · exact hall p hp
      · refine .inr ⟨j, c, hj, by omega, ?_⟩
        have : j - i = (j - (i + 1)) + 1 := by omega
        rw [this, List.getElem?_cons_succ]; exact hg
theorem entI_eq {L : List T} : entI L = entM (L.map fun t => (t.text, true)) := by simp [entI, entM]
/- is a term there, by its text? -/
theorem find_is {L : List T} {t : T} (ht : t.rshp = true) (hL : ∀ u ∈ L, u.rshp = true) : ∃ f, findK (.string t.text) (entI L) 0 = some f ∧ lookVal (.sc (.bool false)) f = .sc (.bool (inL L t)) ∧ f.isSome = inL L t := by
  rw [entI_eq]
  obtain ⟨f, hf, hc⟩ := @findK_str t.text (L.map fun t => (t.text, true)) 0
  refine ⟨f, hf, ?_⟩
  rcases hc with ⟨rfl, hall⟩ | ⟨j, b, rfl, _, hg⟩
  · have : inL L t = false := by
      rw [Bool.eq_false_iff]; intro h
      exact hall (t.text, true) (List.mem_map.2 ⟨t, inL_iff.1 h, rfl⟩) rfl
    rw [this]; exact ⟨rfl, rfl⟩
  · have hm := List.mem_of_getElem? hg
    obtain ⟨u, hu, e⟩ := List.mem_map.1 hm
    simp only [Prod.mk.injEq] at e
    have : u = t := (text_same (hL u hu) ht).1 e.1
    subst this
    rw [inL_iff.2 hu, ← e.2]; exact ⟨rfl, rfl⟩
/- what was found out is right -/
def MOk (L : List T) (M : List (ByteArray × Bool)) : Prop := ∀ p ∈ M, ∃ t : T, t.rshp = true ∧ t.text = p.1 ∧ p.2 = mkP L t
theorem find_made {L : List T} {M : List (ByteArray × Bool)} {t : T} (hM : MOk L M) (ht : t.rshp = true) : ∃ f, findK (.string t.text) (entM M) 0 = some f ∧ (f = none ∨ ∃ j, f = some (j, .sc (.bool (mkP L t)))) := by
  obtain ⟨f, hf, hc⟩ := @findK_str t.text M 0
  refine ⟨f, hf, ?_⟩
  rcases hc with ⟨rfl, _⟩ | ⟨j, b, rfl, _, hg⟩
  · exact .inl rfl
  · right
    obtain ⟨u, hu, e1, e2⟩ := hM _ (List.mem_of_getElem? hg)
    have : u = t := (text_same hu ht).1 e1
    subst this
    exact ⟨j, by rw [← e2]⟩
/- a finding is written down -/
def setM (M : List (ByteArray × Bool)) (s : ByteArray) (b : Bool) : Option (Nat × AV) → List (ByteArray × Bool)
  | some (i, _) => M.set i (s, b)
  | none => M ++ [(s, b)]
theorem setM_ent {M : List (ByteArray × Bool)} {s : ByteArray} {b : Bool} {f : Option (Nat × AV)} : (match f with | some (i, _) => (entM M).set i (.string s, .sc (.bool b)) | none => entM M ++ [(.string s, .sc (.bool b))]) = entM (setM M s b f) := by
  cases f with
  | none => simp [setM, entM]
  | some p => obtain ⟨i, v⟩ := p; simp [setM, entM, List.map_set]
theorem setM_ok {L : List T} {M : List (ByteArray × Bool)} {t : T} {f : Option (Nat × AV)} (hM : MOk L M) (ht : t.rshp = true) : MOk L (setM M t.text (mkP L t) f) := by
  intro p hp
  cases f with
  | none =>
    rcases List.mem_append.1 hp with hp | hp
    · exact hM p hp
    · simp only [List.mem_singleton] at hp; subst hp; exact ⟨t, ht, rfl, rfl⟩
  | some q =>
    obtain ⟨i, v⟩ := q
    rcases List.mem_or_eq_of_mem_set hp with hp | hp
    · exact hM p hp
    · subst hp; exact ⟨t, ht, rfl, rfl⟩
end Abs

namespace Abs
open Go

def St (S : AS) (j : Nat) (M : List (ByteArray × Bool)) : AS := S.set j (some (.map (entM M)))
structure KS (S : AS) (kid i j : Nat) (L : List T) (v : AV) : Prop where
  hk : S.heap kid = some (.rows 3 [[v, .mp i, .mp j]])
  hi : S.heap i = some (.map (entI L))
  roj : S.ro ≤ j
  kj : kid ≠ j
  ij : i ≠ j
  tidy : ∀ t ∈ L, t.tidy
section
variable {S : AS} {kid i j : Nat} {L : List T} {v : AV} {M : List (ByteArray × Bool)}
theorem st_heap {b : Nat} (h : b ≠ j) : (St S j M).heap b = S.heap b := if_neg h
theorem st_self : (St S j M).heap j = some (.map (entM M)) := if_pos rfl
theorem T.tidy.rshp {t : T} (h : t.tidy) : t.rshp = true := (T.right_iff.1 h.right).1
set_option linter.unusedSectionVars false
variable (h : KS S kid i j L v)
include h
theorem KS.ld1 (d : Option Nat) (rg : Nat → Option (List AV)) : opev (.ld none 1 false) d rg (St S j M) [.ptr kid 0 1] = some (.mp i, none, St S j M) := by
  rw [opev_ld_ptr ((st_heap h.kj).trans h.hk)]; rfl
theorem KS.ld2 (d : Option Nat) (rg : Nat → Option (List AV)) : opev (.ld none 1 false) d rg (St S j M) [.ptr kid 0 2] = some (.mp j, none, St S j M) := by
  rw [opev_ld_ptr ((st_heap h.kj).trans h.hk)]; rfl
theorem KS.lk1 {t : T} (ht : t.rshp = true) (d : Option Nat) (rg : Nat → Option (List AV)) : opev (.lookup true (.sc (.bool false)) false) d rg (St S j M) [.mp i, .sc (.string t.text)] = some (.sc (.bool (inL L t)), none, St S j M) := by
  obtain ⟨f, hf, h1, _⟩ := @find_is L t ht (fun u hu => (h.tidy u hu).rshp)
  have hh : (St S j M).heap i = some (.map (entI L)) := (st_heap h.ij).trans h.hi
  simp only [opev, hh, isStr, ne_eq, not_true, if_false, Option.bind_some, hf, Option.map_some, h1, Bool.false_eq_true]
theorem KS.lk2 {t : T} (ht : t.rshp = true) (hM : MOk L M) : ∃ f, findK (.string t.text) (entM M) 0 = some f ∧ ((f = none ∧ ∀ d rg, opev (.lookup true (.sc (.bool false)) true) d rg (St S j M) [.mp j, .sc (.string t.text)] = some (.tup [.sc (.bool false), .sc (.bool false)], none, St S j M)) ∨
    ∀ d rg, opev (.lookup true (.sc (.bool false)) true) d rg (St S j M) [.mp j, .sc (.string t.text)] = some (.tup [.sc (.bool (mkP L t)), .sc (.bool true)], none, St S j M)) := by
  obtain ⟨f, hf, hc⟩ := find_made hM ht
  refine ⟨f, hf, ?_⟩
  have hh : (St S j M).heap j = some (.map (entM M)) := st_self
  rcases hc with rfl | ⟨q, rfl⟩
  · left
    refine ⟨rfl, fun d rg => ?_⟩
    simp only [opev, hh, isStr, ne_eq, not_true, if_false, Option.bind_some, hf, Option.map_some, lookVal, Option.isSome_none, if_true]
  · right
    intro d rg
    simp only [opev, hh, isStr, ne_eq, not_true, if_false, Option.bind_some, hf, Option.map_some, lookVal, Option.isSome_some, if_true]
theorem KS.ms {t : T} {b : Bool} {f : Option (Nat × AV)} (hf : findK (.string t.text) (entM M) 0 = some f) (d : Option Nat) (rg : Nat → Option (List AV)) : opev (.mapset true) d rg (St S j M) [.mp j, .sc (.string t.text), .sc (.bool b)] = some (.junk, none, St S j (setM M t.text b f)) := by
  have hh : (St S j M).heap j = some (.map (entM M)) := st_self
  have hro : (St S j M).ro ≤ j := h.roj
  have hs : ∀ o, (St S j M).set j o = S.set j o := fun o => by
    unfold St AS.set
    simp only [AS.mk.injEq, and_true]
    funext x; split <;> rfl
  have e := @setM_ent M t.text b f
  simp only [opev, hro, isStr, hh, hf, Option.map_some, AV.isReg, and_self, if_true, hs]
  unfold St
  rw [← e]
  cases f <;> rfl
end
section
variable {S : AS} {kid i j : Nat} {L : List T} {v : AV}
/- what makes of a term is to give -/
def MkOk (S : AS) (kid j : Nat) (L : List T) (t : T) : Prop := ∀ M, MOk L M → ∃ M', MOk L M' ∧ call 328 [.ptr kid 0 0, .agg t.cells] (St S j M) = some (.sc (.bool (mkP L t)), St S j M')
theorem all326 {l : List T} {z : Nat} {f : Bool} (hz : l ≠ [] → z = 3) (hlen : l.length ≤ 4611686018427387904) (hm : ∀ t ∈ l, MkOk S kid j L t) {M : List (ByteArray × Bool)} (hM : MOk L M) :
    ∃ M', MOk L M' ∧ call 326 [.ptr kid 0 0, .lst z f (l.map T.cells)] (St S j M) = some (.sc (.bool (mkPL L l)), St S j M') := by
  rw [call_keep a326 (by simp) rfl]
  simp only [f326]
  simp [f326b]
  have h0 : mkPL L l = mkPL L (l.drop 0) := rfl
  rw [h0]
  refine loop_genR (α := Nat) (R := fun q r => ∃ M', MOk L M' ∧ r = some (.sc (.bool (mkPL L (l.drop q))), St S j M')) (fun q e rg S' => q ≤ l.length ∧ NQ [4, 6, 10, 11, 12, 13, 14, 15, 16, 17] [6] e ∧ e 0 = .ptr kid 0 0 ∧ e 7 = .lst z f (l.map T.cells) ∧ e 8 = .sc (.int .i64 (l.length : Nat)) ∧ e 9 = .sc (.int .i64 (q : Nat)) ∧ ∃ M, MOk L M ∧ S' = St S j M) (fun q => l.length - q) (fun _ _ _ _ h => h.2.1) ?_ 0 _ _ _ ?_
  rotate_left
  · refine ⟨by omega, ?_, by simp, by simp, by simp, by simp, M, hM, rfl⟩
    repeat (first | exact NQ_ini rfl | refine NQ_put ?_ (by simp))
  intro kk hkk q e rg S' ⟨hq, hn, g0, g7, g8, g9, M1, hM1, hS⟩ ih
  subst hS
  by_cases hc : q < l.length
  · obtain ⟨t, ht⟩ := get_of_lt hc
    have w2 : IntKind.i64.wrap ((q : Int) + 1) = ((q + 1 : Nat) : Int) := w64 (by omega)
    have hcq : (q : Int) < (l.length : Int) := by omega
    have hz3 : z = 3 := hz (by rintro rfl; simp at hc)
    have hia : pev (.iaddr 3) [.lst z f (l.map T.cells), .sc (.int .i64 (q : Nat))] = some (.iptr t.cells) := by
      subst hz3; rw [pev_iaddrL (by omega)]; simp [ht]
    obtain ⟨hi, he⟩ := List.getElem?_eq_some_iff.1 ht
    have hd : mkPL L (l.drop q) = (mkP L t && mkPL L (l.drop (q + 1))) := by
      rw [List.drop_eq_getElem_cons hi, he, mkPL]
    obtain ⟨M2, hM2, hcall⟩ := hm t (List.mem_of_getElem? ht) M1 hM1
    cases hb : mkP L t with
    | false =>
      rw [hb] at hcall hd
      rw [hd]
      simp [f326_l0, g0, g7, g8, g9, hcq, hia, hcall]
      rw [hkk]
      simp
      exact ⟨M2, hM2, rfl⟩
    | true =>
      rw [hb] at hcall hd
      simp [f326_l0, g0, g7, g8, g9, hcq, hia, hcall, w2]
      refine ih (q + 1) _ _ _ (by omega) (fun _ h => ?_) ?_
      · rw [hd]; simpa using h
      · refine ⟨by omega, ?_, by simp [g0], by simp [g7], by simp [g8], by simp, M2, hM2, rfl⟩
        repeat (first | exact NQ_fgt hn | refine NQ_put ?_ (by simp))
  · have hq' : q = l.length := by omega
    subst hq'
    simp [f326_l0, g8, g9, mkPL]
    rw [hkk]
    simp
    exact ⟨M1, hM1, rfl⟩
theorem tidy_pub {t : T} (h : t.tidy) (hd : t.dp ≤ 59) (hb : t.bulk ≤ 1099511627770) : (tPub t).tidy := by
  obtain ⟨h1, h2, h3⟩ := T.right_iff.1 h.right
  refine ⟨T.right_iff.2 ⟨?_, ?_, ?_⟩, ?_⟩
  · unfold tPub
    rw [T.rshp]
    simp [T.one, knd, nmd, kdn, T.kind, T.name, T.kids, rshpL, h1]
  · rw [T.dp_def]
    have : dpL (tPub t).kids ≤ 59 := dpL_le fun u hu => by
      have hu : u ∈ [t] := hu
      simp only [List.mem_singleton] at hu; subst hu; exact hd
    omega
  · unfold tPub
    rw [T.ord]
    simp [shareOk, ordL, h3]
  · unfold tPub; rw [T.bulk]
    have : bulkL [t] = t.bulk := by rw [bulkL, bulkL]; omega
    have : (⟨#[]⟩ : ByteArray).size = 0 := rfl
    omega
end
end Abs

namespace Abs
open Go

theorem bulk_ge {t : T} : 4 ≤ t.bulk := by cases t; rw [T.bulk]; omega
section
variable {S : AS} {kid i j : Nat} {L : List T} {v : AV}
set_option maxHeartbeats 4000000 in
set_option maxRecDepth 100000 in
theorem mk328 (h : KS S kid i j L v) : ∀ (n : Nat) (t : T), t.bulk < n → t.tidy → MkOk S kid j L t
  | 0, _, hn, _ => by omega
  | n + 1, t, hn, ht => by
    intro M hM
    have ih : ∀ u, u.bulk < t.bulk → u.tidy → MkOk S kid j L u := fun u hu hut => mk328 h n u (by omega) hut
    rw [call_keep a328 (by simp) rfl]
    have e121 : ∀ S, call 121 [.agg t.cells] S = some (.sc (.string t.text), S) := fun S => by rw [s121 ht.bulk, ht.txt]
    have hne : t.text ≠ ⟨#[]⟩ := T.text_ne
    have l1 := fun M => @KS.ld1 S kid i j L v M h
    have l2 := fun M => @KS.ld2 S kid i j L v M h
    have k1 := fun d rg => @KS.lk1 S kid i j L v M h t ht.rshp d rg
    cases hin : inL L t with
    | true =>
      refine ⟨M, hM, ?_⟩
      have : mkP L t = true := by rw [mkP_def, hin]; rfl
      rw [this]
      rw [hin] at k1
      simp [f328, f328b, e121, hne, l1, k1]
    | false =>
      rw [hin] at k1
      obtain ⟨f, hf, hc⟩ := h.lk2 ht.rshp hM
      rcases hc with ⟨rfl, lk⟩ | lk
      · have hms : ∀ M' b, MOk L M' → mkP L t = b → ∃ M'', MOk L M'' ∧ ∀ d rg, opev (.mapset true) d rg (St S j M') [.mp j, .sc (.string t.text), .sc (.bool b)] = some (.junk, none, St S j M'') := fun M' b hM' hb => by
          obtain ⟨f', hf', _⟩ := find_made hM' ht.rshp
          exact ⟨setM M' t.text b f', by rw [← hb]; exact setM_ok hM' ht.rshp, fun d rg => h.ms hf' d rg⟩
        by_cases q1 : t.kind = 1
        · have d1 : decide (t.kind = 1) = true := decide_eq_true q1
          have hb : mkP L t = true := by rw [mkP_def, if_pos q1, Bool.or_true]
          obtain ⟨M2, hM2, ms⟩ := hms M true hM hb
          refine ⟨M2, hM2, ?_⟩
          rw [hb]
          simp [f328, f328b, e121, hne, l1, l2, k1, lk, ms, d1]
        have d1 : decide (t.kind = 1) = false := decide_eq_false q1
        by_cases q2 : t.kind = 2
        · have d2 : decide (t.kind = 2) = true := decide_eq_true q2
          have hb : mkP L t = false := by rw [mkP_def, if_neg q1, if_pos q2, hin]; rfl
          obtain ⟨M2, hM2, ms⟩ := hms M false hM hb
          refine ⟨M2, hM2, ?_⟩
          rw [hb]
          simp [f328, f328b, e121, hne, l1, l2, k1, lk, ms, d1, d2]
        have d2 : decide (t.kind = 2) = false := decide_eq_false q2
        by_cases q9 : t.kind = 9
        · have d9 : decide (t.kind = 9) = true := decide_eq_true q9
          have hk2 : t.kids.length = 2 := by
            have h3 := (T.one_iff.1 ((Bool.and_eq_true _ _ ▸ (t.rshp_def ▸ ht.rshp)) : _ ∧ _).1).2.2
            have : kdn t.kind = 2 := by rw [q9]; rfl
            omega
          obtain ⟨x, y, hxy⟩ : ∃ x y, t.kids = [x, y] := by
            match hl : t.kids, hk2 with
            | [x, y], _ => exact ⟨x, y, rfl⟩
          have tx := ht.kid (u := x) (by rw [hxy]; simp)
          have ty := ht.kid (u := y) (by rw [hxy]; simp)
          have hbk : x.bulk + y.bulk + 4 ≤ t.bulk := by
            have hb := t.bulk_kids
            rw [hxy, bulkL, bulkL, bulkL] at hb
            omega
          have gx := @bulk_ge x
          have gy := @bulk_ge y
          have htb := ht.bulk
          have hdp := (T.right_iff.1 ht.right).2.1
          have px : (tPub x).bulk = x.bulk + 4 := by
            unfold tPub; rw [T.bulk, bulkL, bulkL]
            have : (⟨#[]⟩ : ByteArray).size = 0 := rfl
            omega
          have py : (tPub y).bulk = y.bulk + 4 := by
            unfold tPub; rw [T.bulk, bulkL, bulkL]
            have : (⟨#[]⟩ : ByteArray).size = 0 := rfl
            omega
          have tpx := tidy_pub tx (by have := T.dp_kid (t := t) (u := x) (by rw [hxy]; simp); omega) (by omega)
          have tpy := tidy_pub ty (by have := T.dp_kid (t := t) (u := y) (by rw [hxy]; simp); omega) (by omega)
          have ix := ih x (by omega) tx
          have iy := ih y (by omega) ty
          have ipx := ih (tPub x) (by omega) tpx
          have ipy := ih (tPub y) (by omega) tpy
          have l0 : pev (.iaddr 3) [lstT t.kids, .i 0] = some (.iptr x.cells) := lstT_at (i := 0) (by rw [hxy]; rfl)
          have l1' : pev (.iaddr 3) [lstT t.kids, .i 1] = some (.iptr y.cells) := lstT_at (i := 1) (by rw [hxy]; rfl)
          have hsh : mkP L t = (mkPL L [x, tPub y] || mkPL L [y, tPub x]) := by
            rw [mkP_def, if_neg q1, if_neg q2, if_pos q9, hin, hxy, mkPL_all, mkPL_all]
            simp [shP, mkP_pub]
          obtain ⟨M1, hM1, c1⟩ := all326 (l := [x, tPub y]) (z := 3) (f := true) (fun _ => rfl) (by simp) (by
            intro u hu; simp only [List.mem_cons, List.not_mem_nil, or_false] at hu
            rcases hu with rfl | rfl
            · exact ix
            · exact ipy) hM
          simp only [List.map_cons, List.map_nil] at c1
          cases hb1 : mkPL L [x, tPub y] with
          | true =>
            rw [hb1] at c1 hsh
            obtain ⟨M3, hM3, ms⟩ := hms M1 true hM1 (by rw [hsh]; rfl)
            refine ⟨M3, hM3, ?_⟩
            rw [hsh]
            simp [f328, f328b, e121, hne, l1, l2, k1, lk, ms, d1, d2, d9, l0, l1', c1, fillR]
          | false =>
            rw [hb1] at c1 hsh
            rw [Bool.false_or] at hsh
            obtain ⟨M2, hM2, c2⟩ := all326 (l := [y, tPub x]) (z := 3) (f := true) (fun _ => rfl) (by simp) (by
              intro u hu; simp only [List.mem_cons, List.not_mem_nil, or_false] at hu
              rcases hu with rfl | rfl
              · exact iy
              · exact ipx) hM1
            simp only [List.map_cons, List.map_nil] at c2
            obtain ⟨M3, hM3, ms⟩ := hms M2 _ hM2 hsh
            refine ⟨M3, hM3, ?_⟩
            rw [hsh]
            generalize mkPL L [y, tPub x] = bb at *
            cases bb <;> simp [f328, f328b, e121, hne, l1, l2, k1, lk, ms, d1, d2, d9, l0, l1', c1, c2, fillR]
        · have d9 : decide (t.kind = 9) = false := decide_eq_false q9
          have hsh : mkP L t = mkPL L t.kids := by rw [mkP_def, if_neg q1, if_neg q2, if_neg q9, hin]; rfl
          have hlen := t.bulk_len
          have htb := ht.bulk
          obtain ⟨M1, hM1, c1⟩ := all326 (l := t.kids) (z := if t.kids = [] then 0 else 3) (f := false) (fun hh => if_neg hh) (by omega) (fun u hu => ih u (by have := T.bulk_kid hu; omega) (ht.kid hu)) hM
          have hlst : AV.lst (if t.kids = [] then 0 else 3) false (t.kids.map T.cells) = lstT t.kids := by
            unfold lstT lstN
            cases t.kids <;> simp
          rw [hlst] at c1
          obtain ⟨M3, hM3, ms⟩ := hms M1 _ hM1 hsh
          refine ⟨M3, hM3, ?_⟩
          rw [hsh]
          generalize mkPL L t.kids = bb at *
          simp [f328, f328b, e121, hne, l1, l2, k1, lk, ms, d1, d2, d9, c1]
      · refine ⟨M, hM, ?_⟩
        simp [f328, f328b, e121, hne, l1, l2, k1, lk]
theorem s231 (h : KS S kid i j L v) {t : T} (ht : t.tidy) {M : List (ByteArray × Bool)} (hM : MOk L M) : ∃ M', MOk L M' ∧ call 231 [.ptr kid 0 0, .agg t.cells] (St S j M) = some (.sc (.bool (mkP L t)), St S j M') := by
  rw [call_keep a231 (by simp) rfl]
  obtain ⟨M', hM', hc⟩ := mk328 h (t.bulk + 1) t (by omega) ht M hM
  have e := fun S => @s254 t S ht
  refine ⟨M', hM', ?_⟩
  simp [f231, f231b, e, hc]
end
end Abs

namespace Abs
open Go

def addL (L : List T) (t : T) : List T := if inL L t then L else L ++ [t]
def KOwn (kid i j : Nat) (v : AV) (x : Nat) : Prop := x = kid ∨ x = i ∨ x = j ∨ ∃ a b c d, v = .arr x a b c d
structure KN (S : AS) (kid i j : Nat) (L : List T) (M : List (ByteArray × Bool)) (v : AV) : Prop where
  hk : S.heap kid = some (.rows 3 [[v, .mp i, .mp j]])
  hi : S.heap i = some (.map (entI L))
  hj : S.heap j = some (.map (entM M))
  rok : S.ro ≤ kid
  roi : S.ro ≤ i
  roj : S.ro ≤ j
  ki : kid ≠ i
  kj : kid ≠ j
  ij : i ≠ j
  lk : kid < S.n
  li : i < S.n
  lj : j < S.n
  hv : (L = [] ∧ v = .lst 0 true []) ∨ ∃ id, v = .arr id 3 0 L.length none ∧ S.heap id = some (.rows 3 (L.map T.cells)) ∧ S.ro ≤ id ∧ id < S.n ∧ id ≠ kid ∧ id ≠ i ∧ id ≠ j
  tidy : ∀ t ∈ L, t.tidy
  ok : MOk L M
section
variable {S : AS} {kid i j : Nat} {L : List T} {v : AV} {M : List (ByteArray × Bool)}
theorem KN.ks (h : KN S kid i j L M v) : KS S kid i j L v := ⟨h.hk, h.hi, h.roj, h.kj, h.ij, h.tidy⟩
theorem KN.st (h : KN S kid i j L M v) : St S j M = S := set_same h.hj
theorem KN.reg (h : KN S kid i j L M v) : v.isReg = false := by
  rcases h.hv with ⟨_, rfl⟩ | ⟨id, rfl, _⟩ <;> rfl
theorem KN.len (h : KN S kid i j L M v) : pev .lenL [v] = some (.sc (.int .i64 (L.length : Nat))) := by
  rcases h.hv with ⟨rfl, rfl⟩ | ⟨id, rfl, _⟩ <;> rfl
/- only the findings change -/
theorem KN.made (h : KN S kid i j L M v) {M' : List (ByteArray × Bool)} (hM : MOk L M') : KN (St S j M') kid i j L M' v where
  hk := (st_heap h.kj).trans h.hk
  hi := (st_heap h.ij).trans h.hi
  hj := st_self
  rok := h.rok
  roi := h.roi
  roj := h.roj
  ki := h.ki
  kj := h.kj
  ij := h.ij
  lk := h.lk
  li := h.li
  lj := h.lj
  hv := by
    rcases h.hv with hv | ⟨id, e, h1, h2, h3, h4, h5, h6⟩
    · exact .inl hv
    · exact .inr ⟨id, e, (st_heap h6).trans h1, h2, h3, h4, h5, h6⟩
  tidy := h.tidy
  ok := hM
theorem entI_app {t : T} : entI (L ++ [t]) = entI L ++ [(.string t.text, .sc (.bool true))] := by simp [entI]
set_option maxHeartbeats 4000000 in
theorem c327 {t : T} (h : KN S kid i j L M v) (ht : t.tidy) (hl : L.length ≤ 1000000) : ∃ S' M' v', call 327 [.ptr kid 0 0, .agg t.cells] S = some (.tup [], S') ∧ KN S' kid i j (addL L t) M' v' ∧ S'.ro = S.ro ∧ S.n ≤ S'.n ∧
    ∀ x, x < S.n → ¬ KOwn kid i j v x → S'.heap x = S.heap x ∧ ¬ KOwn kid i j v' x := by
  rw [call_keep a327 (by simp) rfl]
  have e254 := fun S => @s254 t S ht
  have e121 : ∀ S, call 121 [.agg t.cells] S = some (.sc (.string t.text), S) := fun S => by rw [s121 ht.bulk, ht.txt]
  have hne : t.text ≠ ⟨#[]⟩ := T.text_ne
  have hst := h.st
  have l1 := fun d rg => @KS.ld1 S kid i j L v M h.ks d rg
  have k1 := fun d rg => @KS.lk1 S kid i j L v M h.ks t ht.rshp d rg
  rw [hst] at l1 k1
  cases hin : inL L t with
  | true =>
    rw [hin] at k1
    refine ⟨S, M, v, ?_, ?_, rfl, Nat.le_refl _, fun x hx hk => ⟨rfl, hk⟩⟩
    · simp [f327, f327b, e254, e121, hne, l1, k1]
    · unfold addL; rw [if_pos hin]; exact h
  | false =>
    rw [hin] at k1
    have hadd : addL L t = L ++ [t] := by unfold addL; rw [if_neg (by rw [hin]; simp)]
    rw [hadd]
    obtain ⟨f, hf, hv0, hs0⟩ := @find_is L t ht.rshp (fun u hu => (h.tidy u hu).rshp)
    rw [hin] at hs0
    have hfn : f = none := by cases f with | none => rfl | some _ => cases hs0
    subst hfn
    obtain ⟨S1, hS1⟩ : ∃ S1, S1 = S.set i (some (.map (entI (L ++ [t])))) := ⟨_, rfl⟩
    have hms : ∀ d rg, opev (.mapset true) d rg S [.mp i, .sc (.string t.text), .sc (.bool true)] = some (.junk, none, S1) := fun d rg => by
      simp only [opev, h.roi, isStr, h.hi, hf, Option.map_some, AV.isReg, and_self, if_true, hS1, entI_app]
    have n1 : S1.n = S.n := by rw [hS1]; rfl
    have r1 : S1.ro = S.ro := by rw [hS1]; rfl
    have x1 : ∀ b, b ≠ i → S1.heap b = S.heap b := fun b hb => by rw [hS1]; exact if_neg hb
    have i1 : S1.heap i = some (.map (entI (L ++ [t]))) := by rw [hS1]; exact if_pos rfl
    have ld0 : ∀ d rg, opev (.ld none 1 false) d rg S1 [.ptr kid 0 0] = some (v, none, S1) := fun d rg => by
      rw [opev_ld_ptr ((x1 kid h.ki).trans h.hk)]; simp [getCells]
    -- the new block
    obtain ⟨S2, hap, n2, r2, b2, x2⟩ : ∃ S2, (∀ d rg, opev (.append 3 48) d rg S1 [v, .lst 3 true [[.i 0, .s ⟨#[]⟩, .lst 0 true []]]] = some (.arr S.n 3 0 (L.length + 1) none, none, S2)) ∧ S2.n = S.n + 1 ∧ S2.ro = S.ro ∧ S2.heap S.n = some (.rows 3 (L.map T.cells ++ [[.i 0, .s ⟨#[]⟩, .lst 0 true []]])) ∧
        ∀ x, x ≠ S.n → (∀ a b c d, v ≠ .arr x a b c d) → S2.heap x = S1.heap x := by
      rcases h.hv with ⟨rfl, rfl⟩ | ⟨id, rfl, hh, hro, hlt, g1, g2, g3⟩
      · refine ⟨S1.new (.rows 3 [[.i 0, .s ⟨#[]⟩, .lst 0 true []]]), fun d rg => ?_, by show S1.n + 1 = _; omega, r1, ?_, ?_⟩
        · simp [opev, rowsOf, appendA, n1]
        · rw [← n1]; exact heap_new
        · intro x hx _; exact if_neg (by rw [n1]; exact hx)
      · have hh1 : S1.heap id = some (.rows 3 (L.map T.cells)) := (x1 id g2).trans hh
        refine ⟨(S1.set id none).new (.rows 3 (L.map T.cells ++ [[.i 0, .s ⟨#[]⟩, .lst 0 true []]])), fun d rg => ?_, by show S1.n + 1 = _; omega, r1, ?_, ?_⟩
        · have hc1 : ¬ (S1.ro > id) := by rw [r1]; omega
          have hc2 : ¬ id < S1.ro := by rw [r1]; omega
          have hc3 : (L.length + 1) * 48 ≤ 140737488355328 := by omega
          have hlm : (L.map T.cells).length = L.length := List.length_map _
          have hrw : rowsOf 3 S1 (.lst 3 true [[.i 0, .s ⟨#[]⟩, .lst 0 true []]]) = some [[.i 0, .s ⟨#[]⟩, .lst 0 true []]] := by simp [rowsOf]
          simp only [opev, hrw, appendA, Option.bind_some, List.isEmpty_cons, Bool.false_eq_true, if_false, hh1, List.length_singleton, Nat.zero_add, hlm]
          rw [if_neg (by simp; omega), if_neg (by omega), if_pos ⟨trivial, hc3⟩]
          have htk : (L.map T.cells).take L.length = L.map T.cells := by rw [← hlm]; exact List.take_length
          simp only [htk, Option.map_some, Option.some.injEq, Prod.mk.injEq, AV.arr.injEq, and_true, true_and]
          exact n1
        · show (if S.n = S1.n then _ else _) = _
          rw [if_pos n1.symm]
        · intro x hx hv
          show (if x = S1.n then _ else (if x = id then none else S1.heap x)) = _
          rw [if_neg (by rw [n1]; exact hx), if_neg (fun e => hv _ _ _ _ (by rw [e]))]
    have hvx : ∀ x, ¬ KOwn kid i j v x → ∀ a b c d, v ≠ .arr x a b c d := fun x hx a b c d e => hx (.inr (.inr (.inr ⟨a, b, c, d, e⟩)))
    have hvk : ∀ a b c d, v ≠ .arr kid a b c d := fun a b c d e => by
      rcases h.hv with ⟨_, e'⟩ | ⟨id, e', _, _, _, g1, _⟩
      · rw [e'] at e; cases e
      · rw [e'] at e; cases e; exact g1 rfl
    have hvi : ∀ a b c d, v ≠ .arr i a b c d := fun a b c d e => by
      rcases h.hv with ⟨_, e'⟩ | ⟨id, e', _, _, _, _, g1, _⟩
      · rw [e'] at e; cases e
      · rw [e'] at e; cases e; exact g1 rfl
    have hvj : ∀ a b c d, v ≠ .arr j a b c d := fun a b c d e => by
      rcases h.hv with ⟨_, e'⟩ | ⟨id, e', _, _, _, _, _, g1⟩
      · rw [e'] at e; cases e
      · rw [e'] at e; cases e; exact g1 rfl
    have lk := h.lk
    have li := h.li
    have lj := h.lj
    have hlen := h.len
    have hia : pev (.iaddr 3) [.arr S.n 3 0 (L.length + 1) none, .sc (.int .i64 (L.length : Nat))] = some (.ptr S.n L.length 0) := by simp [pev]; omega
    -- the element
    obtain ⟨S3, hS3⟩ : ∃ S3, S3 = S2.set S.n (some (.rows 3 ((L ++ [t]).map T.cells))) := ⟨_, rfl⟩
    have hst1 : ∀ d rg, opev (.st none 3) d rg S2 [.ptr S.n L.length 0, .agg t.cells] = some (.junk, none, S3) := fun d rg => by
      have hro2 : S2.ro ≤ S.n := by rw [r2]; have := h.rok; omega
      have hcs : (AV.agg t.cells).cells = t.cells := rfl
      have hrow : (L.map T.cells ++ [[AV.i 0, .s ⟨#[]⟩, .lst 0 true []]])[L.length]? = some [AV.i 0, .s ⟨#[]⟩, .lst 0 true []] := by
        rw [List.getElem?_append_right (by simp)]; simp
      have hsc : setCells [AV.i 0, .s ⟨#[]⟩, .lst 0 true []] 0 t.cells = t.cells := by simp [setCells]
      have hset : (L.map T.cells ++ [[AV.i 0, .s ⟨#[]⟩, .lst 0 true []]]).set L.length t.cells = (L ++ [t]).map T.cells := by
        rw [List.set_append_right _ _ (by simp)]; simp
      simp only [opev, hro2, hcs, T.cell_cells, T.len_cells, and_self, if_true, b2, hrow, Option.bind_some, Nat.zero_add, List.length_cons, List.length_nil, Nat.le_refl, hsc, hset, hS3]
    have n3 : S3.n = S.n + 1 := by rw [hS3]; exact n2
    have r3 : S3.ro = S.ro := by rw [hS3]; exact r2
    have x3 : ∀ x, x ≠ S.n → S3.heap x = S2.heap x := fun x hx => by rw [hS3]; exact if_neg hx
    have k3 : S3.heap kid = some (.rows 3 [[v, .mp i, .mp j]]) := by rw [x3 kid (by omega), x2 kid (by omega) hvk, x1 kid h.ki]; exact h.hk
    obtain ⟨S4, hS4⟩ : ∃ S4, S4 = S3.set kid (some (.rows 3 [[.arr S.n 3 0 (L.length + 1) none, .mp i, .mp j]])) := ⟨_, rfl⟩
    have hst2 : ∀ d rg, opev (.st none 1) d rg S3 [.ptr kid 0 0, .arr S.n 3 0 (L.length + 1) none] = some (.junk, none, S4) := fun d rg => by
      have hro3 : S3.ro ≤ kid := by rw [r3]; exact h.rok
      simp [opev, hro3, k3, hS4, AV.isCell, AV.cells]
    have n4 : S4.n = S.n + 1 := by rw [hS4]; exact n3
    have r4 : S4.ro = S.ro := by rw [hS4]; exact r3
    have x4 : ∀ x, x ≠ kid → S4.heap x = S3.heap x := fun x hx => by rw [hS4]; exact if_neg hx
    have j4 : S4.heap j = some (.map (entM M)) := by rw [x4 j (Ne.symm h.kj), x3 j (by omega), x2 j (by omega) hvj, x1 j (Ne.symm h.ij)]; exact h.hj
    have i4 : S4.heap i = some (.map (entI (L ++ [t]))) := by rw [x4 i (Ne.symm h.ki), x3 i (by omega), x2 i (by omega) hvi]; exact i1
    have b4 : S4.heap S.n = some (.rows 3 ((L ++ [t]).map T.cells)) := by rw [x4 S.n (by omega), hS3]; exact if_pos rfl
    have k4 : S4.heap kid = some (.rows 3 [[.arr S.n 3 0 (L.length + 1) none, .mp i, .mp j]]) := by rw [hS4]; exact if_pos rfl
    have ld2 : ∀ d rg, opev (.ld none 1 false) d rg S4 [.ptr kid 0 2] = some (.mp j, none, S4) := fun d rg => by rw [opev_ld_ptr k4]; rfl
    have hclr : ∀ d rg, opev .clearM d rg S4 [.mp j] = some (.tup [], none, S4.set j (some (.map []))) := fun d rg => by
      have hro4 : S4.ro ≤ j := by rw [r4]; exact h.roj
      simp only [opev, hro4, if_true, j4]
    have hchk : (S.n != kid) = true := by simp; omega
    have hvr := h.reg
    have e5 : ∀ x, x ≠ j → (S4.set j (some (.map []))).heap x = S4.heap x := fun x hx => if_neg hx
    refine ⟨S4.set j (some (.map [])), [], .arr S.n 3 0 (L.length + 1) none, ?_, ?_, r4, by show S.n ≤ S4.n; omega, ?_⟩
    · simp [f327, f327b, e254, e121, hne, l1, k1, hms, ld0, hvr, hlen, fillR, hap, hia, hst1, hst2, ld2, hclr, chkE, hchk]
    · refine ⟨?_, ?_, ?_, by show S4.ro ≤ _; rw [r4]; exact h.rok, by show S4.ro ≤ _; rw [r4]; exact h.roi, by show S4.ro ≤ _; rw [r4]; exact h.roj, h.ki, h.kj, h.ij, by show _ < S4.n; omega, by show _ < S4.n; omega, by show _ < S4.n; omega, .inr ⟨S.n, ?_, ?_, by show S4.ro ≤ _; rw [r4]; have := h.rok; omega, by show _ < S4.n; omega, by omega, by omega, by omega⟩, ?_, fun p hp => by cases hp⟩
      · rw [e5 kid h.kj]; exact k4
      · rw [e5 i h.ij]; exact i4
      · exact if_pos rfl
      · simp
      · rw [e5 S.n (by omega)]; exact b4
      · intro u hu
        rcases List.mem_append.1 hu with hu | hu
        · exact h.tidy u hu
        · simp only [List.mem_singleton] at hu; subst hu; exact ht
    · intro x hx hk
      have q1 : x ≠ kid := fun e => hk (.inl e)
      have q2 : x ≠ i := fun e => hk (.inr (.inl e))
      have q3 : x ≠ j := fun e => hk (.inr (.inr (.inl e)))
      refine ⟨?_, ?_⟩
      · rw [e5 x q3, x4 x q1, x3 x (by omega), x2 x (by omega) (hvx x hk), x1 x q2]
      · rintro (e | e | e | ⟨a, b, c, d, e⟩)
        · exact q1 e
        · exact q2 e
        · exact q3 e
        · cases e; omega
end
end Abs

namespace Abs
open Go

instance decT : DecidableEq T := fun a b => decidable_of_iff (a.same b = true) T.same_iff
theorem addL_mem {L : List T} {t u : T} : u ∈ addL L t ↔ u ∈ L ∨ u = t := by
  unfold addL
  split
  · rename_i h
    refine ⟨.inl, fun hu => ?_⟩
    rcases hu with hu | rfl
    · exact hu
    · exact inL_iff.1 h
  · simp
theorem addL_nodup {L : List T} {t : T} (h : L.Nodup) : (addL L t).Nodup := by
  unfold addL
  split
  · exact h
  · rename_i hn
    rw [List.nodup_append]
    refine ⟨h, by simp, fun a ha b hb => ?_⟩
    simp only [List.mem_singleton] at hb
    subst hb
    rintro rfl
    exact hn (inL_iff.2 ha)
theorem addL_len {L : List T} {t : T} : L.length ≤ (addL L t).length ∧ (addL L t).length ≤ L.length + 1 := by
  unfold addL; split <;> simp
def addA (L : List T) (m : List T) : List T := m.foldl addL L
theorem addA_mem {m : List T} : ∀ {L : List T} {u : T}, u ∈ addA L m ↔ u ∈ L ∨ u ∈ m := by
  induction m with
  | nil => intro L u; simp [addA]
  | cons a m ih =>
    intro L u
    have := @ih (addL L a) u
    unfold addA at this ⊢
    rw [List.foldl_cons, this, addL_mem]
    simp only [List.mem_cons]
    constructor
    · rintro ((h | h) | h)
      · exact .inl h
      · exact .inr (.inl h)
      · exact .inr (.inr h)
    · rintro (h | h | h)
      · exact .inl (.inl h)
      · exact .inl (.inr h)
      · exact .inr h
theorem addA_nodup {m : List T} : ∀ {L : List T}, L.Nodup → (addA L m).Nodup := by
  induction m with
  | nil => intro L h; exact h
  | cons a m ih => intro L h; exact ih (addL_nodup h)
theorem addA_len {m : List T} : ∀ {L : List T}, L.length ≤ (addA L m).length ∧ (addA L m).length ≤ L.length + m.length := by
  induction m with
  | nil => intro L; exact ⟨Nat.le_refl _, Nat.le_refl _⟩
  | cons a m ih =>
    intro L
    have h1 := @ih (addL L a)
    have h2 := @addL_len L a
    unfold addA at h1 ⊢
    rw [List.foldl_cons, List.length_cons]
    omega
theorem addA_take {L m : List T} {q : Nat} {t : T} (h : m[q]? = some t) : addA L (m.take (q + 1)) = addL (addA L (m.take q)) t := by
  unfold addA
  rw [List.take_add_one, h]; simp
theorem addL_pre {L : List T} {t : T} : L <+: addL L t := by
  unfold addL; split
  · exact List.prefix_refl _
  · exact List.prefix_append _ _
theorem addA_pre {m : List T} : ∀ {L : List T}, L <+: addA L m := by
  induction m with
  | nil => intro L; exact List.prefix_refl _
  | cons a m ih => intro L; exact List.IsPrefix.trans addL_pre ih
theorem addA_same {L m : List T} (h : (addA L m).length ≤ L.length) : addA L m = L := (addA_pre.eq_of_length_le h).symm
theorem nodup_le : ∀ {L U : List T}, L.Nodup → (∀ t ∈ L, t ∈ U) → L.length ≤ U.length
  | [], U, _, _ => Nat.zero_le _
  | a :: L, U, hn, hs => by
    rw [List.nodup_cons] at hn
    have ha := hs a List.mem_cons_self
    have := @nodup_le L (U.erase a) hn.2 fun t ht => (List.mem_erase_of_ne (by rintro rfl; exact hn.1 ht)).2 (hs t (List.mem_cons_of_mem _ ht))
    rw [List.length_erase_of_mem ha] at this
    have hp := List.length_pos_of_mem ha
    rw [List.length_cons]; omega
/- how it is taken apart -/
def decL (t : T) : Option (List T × List T) := if t.kind = 3 then some ([], t.kids) else if t.kind = 4 then some (t.kids.take 1, t.kids.drop 1) else if t.kind = 10 then some (t.kids.drop 1, t.kids.take 1) else none
def moreL (L : List T) (t : T) : List T := match decL t with
  | some (n, g) => if mkPL L n then g else []
  | none => []
theorem decL_kids {t : T} {n g : List T} (h : decL t = some (n, g)) : (∀ u ∈ n, u ∈ t.kids) ∧ ∀ u ∈ g, u ∈ t.kids := by
  unfold decL at h
  split at h
  · cases h; exact ⟨fun u hu => absurd hu (List.not_mem_nil), fun u hu => hu⟩
  · split at h
    · cases h; exact ⟨fun u hu => List.mem_of_mem_take hu, fun u hu => List.mem_of_mem_drop hu⟩
    · split at h
      · cases h; exact ⟨fun u hu => List.mem_of_mem_drop hu, fun u hu => List.mem_of_mem_take hu⟩
      · cases h
theorem moreL_kids {L : List T} {t u : T} (h : u ∈ moreL L t) : u ∈ t.kids := by
  unfold moreL at h
  split at h
  · rename_i n g hd
    split at h
    · exact (decL_kids hd).2 u h
    · cases h
  · cases h
theorem inL_mono {L Q : List T} {t : T} (h : ∀ u ∈ L, u ∈ Q) (ht : inL L t = true) : inL Q t = true := inL_iff.2 (h t (inL_iff.1 ht))
mutual
theorem mkP_mono {L Q : List T} (h : ∀ u ∈ L, u ∈ Q) : ∀ t : T, mkP L t = true → mkP Q t = true
  | .mk k n l => by
    rw [mkP, mkP, Bool.or_eq_true, Bool.or_eq_true]
    rintro (h1 | h1)
    · exact .inl (inL_mono h h1)
    · right
      split at h1
      · rename_i e; rw [if_pos e]
      · rename_i e; rw [if_neg e]
        split at h1
        · cases h1
        · rename_i e; rw [if_neg e]
          split at h1
          · rename_i e; rw [if_pos e]; exact shP_mono h l h1
          · rename_i e; rw [if_neg e]; exact mkPL_mono h l h1
theorem mkPL_mono {L Q : List T} (h : ∀ u ∈ L, u ∈ Q) : ∀ l : List T, mkPL L l = true → mkPL Q l = true
  | [], _ => by rw [mkPL]
  | t :: l, h1 => by
    rw [mkPL, Bool.and_eq_true] at h1 ⊢
    exact ⟨mkP_mono h t h1.1, mkPL_mono h l h1.2⟩
theorem shP_mono {L Q : List T} (h : ∀ u ∈ L, u ∈ Q) : ∀ l : List T, shP L l = true → shP Q l = true
  | [], h1 => by simp [shP] at h1
  | [a], h1 => by simp [shP] at h1
  | a :: b :: l, h1 => by
    have ma := mkP_mono h a
    have mb := mkP_mono h b
    have ia := @inL_mono L Q (tPub a) h
    have ib := @inL_mono L Q (tPub b) h
    simp only [shP, Bool.or_eq_true, Bool.and_eq_true] at h1 ⊢
    rcases h1 with ⟨x, y | y⟩ | ⟨x, y | y⟩
    · exact .inl ⟨ma x, .inl (ib y)⟩
    · exact .inl ⟨ma x, .inr (mb y)⟩
    · exact .inr ⟨mb x, .inl (ia y)⟩
    · exact .inr ⟨mb x, .inr (ma y)⟩
end
theorem moreL_mono {L Q : List T} (h : ∀ u ∈ L, u ∈ Q) {t u : T} (hu : u ∈ moreL L t) : u ∈ moreL Q t := by
  unfold moreL at hu ⊢
  split at hu
  · rename_i n g hd
    split at hu
    · rename_i hm
      rw [if_pos (mkPL_mono h n hm)]; exact hu
    · cases hu
  · cases hu
end Abs

namespace Abs
open Go

section
variable {S : AS}
/- the frame of what Known doesn't own -/
structure Ap (S S' : AS) (own own' : Nat → Prop) : Prop where
  ro : S'.ro = S.ro
  n : S.n ≤ S'.n
  h : ∀ x, x < S.n → ¬ own x → S'.heap x = S.heap x ∧ ¬ own' x
def OfR (S : AS) (frame : List T) (r : Option (AV × AS)) : Prop := ∃ S' M v, r = some (.ptr (S.n + 2) 0 0, S') ∧ KN S' (S.n + 2) S.n (S.n + 1) (addA [] frame) M v ∧ S'.ro = S.ro ∧ S.n + 3 ≤ S'.n ∧ ∀ x, x < S.n → S'.heap x = S.heap x ∧ ¬ KOwn (S.n + 2) S.n (S.n + 1) v x
set_option maxHeartbeats 2000000 in
theorem c257x {x0 : AV} {frame : List T} (hts : IsTs S x0 frame) (hxn : x0.nrm = x0) (hf : ∀ t ∈ frame, t.tidy) (hl : frame.length ≤ 1000) (hS : S.ro ≤ S.n) : OfR S frame (call 257 [x0] S) := by
  have hxr := hts.reg
  have hxl := hts.len
  rw [hxn] at hxl
  rw [call_keep a257 (by simp [hxr]) rfl]
  obtain ⟨S3, hS3⟩ : ∃ S3, S3 = ((S.new (.map [])).new (.map [])).new (.rows 3 [[.lst 0 true [], .mp S.n, .mp (S.n + 1)]]) := ⟨_, rfl⟩
  have m1 : ∀ d rg (S : AS), opev .mkmap d rg S [] = some (.mp S.n, none, S.new (.map [])) := fun _ _ _ => rfl
  have hbx : ∀ d rg, opev (.box .heap) d rg ((S.new (.map [])).new (.map [])) [.agg [.lst 0 true [], .mp S.n, .mp (S.n + 1)]] = some (.ptr (S.n + 2) 0 0, none, S3) := fun d rg => by rw [hS3]; rfl
  have n1 : (S.new (.map [])).n = S.n + 1 := rfl
  have n3 : S3.n = S.n + 3 := by rw [hS3]; rfl
  have r3 : S3.ro = S.ro := by rw [hS3]; rfl
  have k0 : KN S3 (S.n + 2) S.n (S.n + 1) [] [] (.lst 0 true []) := by
    refine ⟨?_, ?_, ?_, by omega, by omega, by omega, by omega, by omega, by omega, by omega, by omega, by omega, .inl ⟨rfl, rfl⟩, fun t ht => absurd ht (List.not_mem_nil), fun p hp => absurd hp (List.not_mem_nil)⟩
    · rw [hS3]; exact if_pos rfl
    · rw [hS3]
      show (if S.n = S.n + 2 then _ else if S.n = S.n + 1 then _ else if S.n = S.n then _ else _) = _
      rw [if_neg (by omega), if_neg (by omega), if_pos rfl]; rfl
    · rw [hS3]
      show (if S.n + 1 = S.n + 2 then _ else if S.n + 1 = S.n + 1 then _ else _) = _
      rw [if_neg (by omega), if_pos rfl]; rfl
  have x3 : ∀ x, x < S.n → S3.heap x = S.heap x := fun x hx => by
    rw [hS3]
    show (if x = S.n + 2 then _ else if x = S.n + 1 then _ else if x = S.n then _ else S.heap x) = _
    rw [if_neg (by omega), if_neg (by omega), if_neg (by omega)]
  simp only [f257]
  simp [f257b, m1, n1, hbx, hxr, hxl]
  refine loop_genR (α := Nat) (R := fun _ r => OfR S frame r)
    (fun q e rg S' => q ≤ frame.length ∧ NQ [5, 13, 14, 15, 16, 17, 18, 19] [5] e ∧ e 3 = .ptr (S.n + 2) 0 0 ∧ e 10 = x0 ∧ e 11 = .sc (.int .i64 (frame.length : Nat)) ∧ e 12 = .sc (.int .i64 (q : Nat)) ∧
      ∃ M v, KN S' (S.n + 2) S.n (S.n + 1) (addA [] (frame.take q)) M v ∧ S'.ro = S.ro ∧ S.n + 3 ≤ S'.n ∧ ∀ x, x < S.n → S'.heap x = S.heap x ∧ ¬ KOwn (S.n + 2) S.n (S.n + 1) v x) (fun q => frame.length - q) (fun _ _ _ _ h => h.2.1) ?_ 0 _ _ _ ?_
  rotate_left
  · refine ⟨by omega, ?_, by simp, by simp, by simp, by simp, [], .lst 0 true [], k0, r3, by omega, fun x hx => ⟨x3 x hx, ?_⟩⟩
    · repeat (first | exact NQ_ini (by simp [hxr]) | refine NQ_put ?_ (by simp [hxr]))
    · rintro (h | h | h | ⟨a, b, c, d, h⟩)
      · omega
      · omega
      · omega
      · cases h
  intro kk hkk q e rg S' ⟨hq, hn, g3, g10, g11, g12, M, v, hK, hr, hnn, hx⟩ ih
  by_cases hc : q < frame.length
  · obtain ⟨t, ht⟩ := get_of_lt hc
    have w2 : IntKind.i64.wrap ((q : Int) + 1) = ((q + 1 : Nat) : Int) := w64 (by omega)
    have hcq : (q : Int) < (frame.length : Int) := by omega
    have hln := @addA_len (frame.take q) []
    rw [List.length_take, List.length_nil] at hln
    obtain ⟨S4, M4, v4, hcall, hK4, hr4, hn4, hx4⟩ := c327 hK (hf t (List.mem_of_getElem? ht)) (by omega)
    rw [← addA_take ht] at hK4
    obtain ⟨pt, hpt, hpr, hpl⟩ := hts.at ht
    rw [hxn] at hpt
    have hpl := hpl S' (fun id hid => (hx id hid).1)
    simp [f257_l0, g3, g10, g11, g12, hcq, hpt, hpr, hpl, hcall, w2]
    refine ih (q + 1) _ _ _ (by omega) (fun _ h => h) ?_
    refine ⟨by omega, ?_, by simp [g3], by simp [g10], by simp [g11], by simp, M4, v4, hK4, hr4.trans hr, by omega, fun x hxx => ?_⟩
    · repeat (first | exact NQ_fgt hn | refine NQ_put ?_ (by simp))
    · obtain ⟨p1, p2⟩ := hx x hxx
      obtain ⟨q1, q2⟩ := hx4 x (by omega) p2
      exact ⟨q1.trans p1, q2⟩
  · have hq' : q = frame.length := by omega
    subst hq'
    rw [List.take_length] at hK
    simp [f257_l0, g11, g12]
    rw [hkk]
    simp [g3]
    exact ⟨S', M, v, rfl, hK, hr, hnn, hx⟩
theorem c257 {frame : List T} (hf : ∀ t ∈ frame, t.tidy) (hl : frame.length ≤ 1000) (hS : S.ro ≤ S.n) : OfR S frame (call 257 [lstT frame] S) := c257x isTs_T (by simp) hf hl hS
/- the ways -/
def W0 : List (Value × AV) := [(.int .i64 3, .agg [.fn 412 [] [], .fn 415 [] []]), (.int .i64 4, .agg [.fn 413 [] [], .fn 414 [] []]), (.int .i64 10, .agg [.fn 414 [] [], .fn 413 [] []])]
theorem c325 (hS : S.ro ≤ S.n) : ∃ S', call 325 [] S = some (.mp S.n, S') ∧ S'.heap S.n = some (.map W0) ∧ S'.n = S.n + 1 ∧ S'.ro = S.ro ∧ ∀ x, x ≠ S.n → S'.heap x = S.heap x := by
  rw [call_keep a325 (by simp) rfl]
  have m1 : ∀ d rg (S : AS), opev .mkmap d rg S [] = some (.mp S.n, none, S.new (.map [])) := fun _ _ _ => rfl
  have ms : ∀ (es : List (Value × AV)) (k : Int) (v : AV), v.isReg = false → findK (.int .i64 k) es 0 = some none → ∀ (S' : AS) d rg, S'.ro ≤ S.n → S'.heap S.n = some (.map es) → opev (.mapset false) d rg S' [.mp S.n, .sc (.int .i64 k), v] = some (.junk, none, S'.set S.n (some (.map (es ++ [(.int .i64 k, v)])))) := fun es k v hv hf S' d rg hro hh => by
    simp only [opev, hro, hv, isStr, hh, hf, Option.map_some, and_self, if_true]
  have s1 := ms [] 3 (.agg [.fn 412 [] [], .fn 415 [] []]) rfl rfl (S.new (.map []))
  have s2 := ms [(.int .i64 3, .agg [.fn 412 [] [], .fn 415 [] []])] 4 (.agg [.fn 413 [] [], .fn 414 [] []]) rfl rfl ((S.new (.map [])).set S.n (some (.map ([] ++ [(.int .i64 3, .agg [.fn 412 [] [], .fn 415 [] []])]))))
  have s3 := ms [(.int .i64 3, .agg [.fn 412 [] [], .fn 415 [] []]), (.int .i64 4, .agg [.fn 413 [] [], .fn 414 [] []])] 10 (.agg [.fn 414 [] [], .fn 413 [] []]) rfl rfl (((S.new (.map [])).set S.n (some (.map ([] ++ [(.int .i64 3, .agg [.fn 412 [] [], .fn 415 [] []])])))).set S.n (some (.map ([(.int .i64 3, .agg [.fn 412 [] [], .fn 415 [] []])] ++ [(.int .i64 4, .agg [.fn 413 [] [], .fn 414 [] []])]))))
  have s1' := fun d rg => s1 d rg hS heap_new
  have s2' := fun d rg => s2 d rg hS (if_pos rfl)
  have s3' := fun d rg => s3 d rg hS (if_pos rfl)
  refine ⟨(((S.new (.map [])).set S.n (some (.map ([] ++ [(.int .i64 3, .agg [.fn 412 [] [], .fn 415 [] []])])))).set S.n (some (.map ([(.int .i64 3, .agg [.fn 412 [] [], .fn 415 [] []])] ++ [(.int .i64 4, .agg [.fn 413 [] [], .fn 414 [] []])])))).set S.n (some (.map ([(.int .i64 3, .agg [.fn 412 [] [], .fn 415 [] []]), (.int .i64 4, .agg [.fn 413 [] [], .fn 414 [] []])] ++ [(.int .i64 10, .agg [.fn 414 [] [], .fn 413 [] []])]))), ?_, ?_, ?_, ?_, ?_⟩
  rotate_left
  · exact if_pos rfl
  · rfl
  · rfl
  · intro x hx
    show (if x = S.n then _ else if x = S.n then _ else if x = S.n then _ else if x = S.n then _ else S.heap x) = _
    simp only [if_neg hx]
  · simp only [List.nil_append, List.cons_append] at s1' s2' s3'
    simp [f325, f325b, m1, s1', s2', s3']
end
end Abs

namespace Abs
open Go

/- a list of terms in memory, that grows -/
def MR (S : AS) (v : AV) (R : List T) : Prop := (R = [] ∧ v = .lst 0 true []) ∨ ∃ id, v = .arr id 3 0 R.length none ∧ S.heap id = some (.rows 3 (R.map T.cells)) ∧ S.ro ≤ id ∧ id < S.n
def IsArr (v : AV) (x : Nat) : Prop := ∃ a b c d, v = .arr x a b c d
section
variable {S : AS} {v : AV} {R : List T}
theorem MR.reg (h : MR S v R) : v.isReg = false := by rcases h with ⟨_, rfl⟩ | ⟨id, rfl, _⟩ <;> rfl
theorem MR.len (h : MR S v R) : pev .lenL [v] = some (.sc (.int .i64 (R.length : Nat))) := by
  rcases h with ⟨rfl, rfl⟩ | ⟨id, rfl, _⟩ <;> rfl
theorem MR.keep (h : MR S v R) {S' : AS} (hr : S'.ro = S.ro) (hn : S.n ≤ S'.n) (hh : ∀ x, x < S.n → IsArr v x → S'.heap x = S.heap x) : MR S' v R := by
  rcases h with h | ⟨id, e, h1, h2, h3⟩
  · exact .inl h
  · exact .inr ⟨id, e, by rw [hh id h3 ⟨_, _, _, _, e⟩]; exact h1, by rw [hr]; exact h2, by omega⟩
theorem MR.at (h : MR S v R) {i : Nat} {t : T} (ht : R[i]? = some t) : ∃ p, pev (.iaddr 3) [v, .sc (.int .i64 (i : Int))] = some p ∧ p.isReg = false ∧ ∀ d rg, opev (.ld none 3 true) d rg S [p] = some (.agg t.cells, none, S) := by
  have hi := (List.getElem?_eq_some_iff.1 ht).1
  rcases h with ⟨rfl, _⟩ | ⟨id, rfl, h1, _, _⟩
  · simp at ht
  · refine ⟨.ptr id i 0, by simp [pev]; omega, rfl, fun d rg => ld_rows h1 (by simp [ht]) (by simp)⟩
theorem lst_rows {z : Nat} {f : Bool} {g : List T} (hz : g ≠ [] → z = 3) : rowsOf 3 S (.lst z f (g.map T.cells)) = some (g.map T.cells) := by
  cases g with
  | nil => simp [rowsOf]
  | cons a g => rw [hz (by simp)]; simp [rowsOf]
set_option maxHeartbeats 1000000 in
theorem MR.app (h : MR S v R) (hro : S.ro ≤ S.n) {z : Nat} {f : Bool} {g : List T} (hz : g ≠ [] → z = 3) (hb : R.length + g.length ≤ 1000000) :
    ∃ v' S', (∀ d rg, opev (.append 3 48) d rg S [v, .lst z f (g.map T.cells)] = some (v', none, S')) ∧ MR S' v' (R ++ g) ∧ S'.ro = S.ro ∧ S.n ≤ S'.n ∧
      ∀ x, x < S.n → ¬ IsArr v x → S'.heap x = S.heap x ∧ ¬ IsArr v' x := by
  have hrw := @lst_rows S z f g hz
  cases g with
  | nil =>
    rw [List.map_nil] at hrw ⊢
    rcases h with ⟨rfl, rfl⟩ | ⟨id, rfl, h1, h2, h3⟩
    · refine ⟨.arr S.n 3 0 0 none, S.new (.rows 3 []), fun d rg => ?_, .inr ⟨S.n, rfl, heap_new, hro, Nat.lt_succ_self _⟩, rfl, Nat.le_succ _, fun x hx hv => ⟨if_neg (by omega), ?_⟩⟩
      · simp [opev, hrw, appendA]
      · rintro ⟨a, b, c, d, e⟩; cases e; omega
    · refine ⟨.arr id 3 0 R.length none, S, fun d rg => ?_, .inr ⟨id, by simp, by simpa using h1, h2, h3⟩, rfl, Nat.le_refl _, fun x hx hv => ⟨rfl, hv⟩⟩
      simp [opev, hrw, appendA]
  | cons a g =>
    have hem : ((a :: g).map T.cells).isEmpty = false := rfl
    have hlm : ((a :: g).map T.cells).length = (a :: g).length := List.length_map _
    rcases h with ⟨rfl, rfl⟩ | ⟨id, rfl, h1, h2, h3⟩
    · have hb2 : (0 + (a :: g).length) * 48 ≤ 140737488355328 := by simp only [List.length_nil] at hb; omega
      refine ⟨.arr S.n 3 0 (a :: g).length none, S.new (.rows 3 ((a :: g).map T.cells)), fun d rg => ?_, .inr ⟨S.n, by simp, by simpa using heap_new, hro, Nat.lt_succ_self _⟩, rfl, Nat.le_succ _, fun x hx hv => ⟨if_neg (by omega), ?_⟩⟩
      · simp only [opev, hrw, Option.bind_some, appendA, hem, Bool.false_eq_true, if_false, List.isEmpty_nil, Bool.true_or, Bool.true_and, List.length_nil, hlm, List.nil_append, Nat.zero_add]
        rw [if_pos (by rw [decide_eq_true_eq]; omega)]; rfl
      · rintro ⟨a, b, c, d, e⟩; cases e; omega
    · have hb2 : (R.length + (a :: g).length) * 48 ≤ 140737488355328 := by omega
      have hlr : (R.map T.cells).length = R.length := List.length_map _
      have htk : (R.map T.cells).take R.length = R.map T.cells := by rw [← hlr]; exact List.take_length
      refine ⟨.arr S.n 3 0 (R.length + (a :: g).length) none, (S.set id none).new (.rows 3 (R.map T.cells ++ (a :: g).map T.cells)), fun d rg => ?_, .inr ⟨S.n, by simp, ?_, hro, Nat.lt_succ_self _⟩, rfl, Nat.le_succ _, fun x hx hv => ⟨?_, ?_⟩⟩
      · simp only [opev, hrw, Option.bind_some, appendA, hem, Bool.false_eq_true, if_false, h1, Nat.zero_add, hlm, hlr]
        rw [if_neg (by simp; omega), if_neg (by simp), if_pos ⟨trivial, hb2⟩]
        simp only [htk, Option.map_some]
      · rw [List.map_append]; exact if_pos rfl
      · show (if x = S.n then _ else (if x = id then none else S.heap x)) = _
        rw [if_neg (by omega), if_neg (fun e => hv ⟨_, _, _, _, by rw [e]⟩)]
      · rintro ⟨a, b, c, d, e⟩; cases e; omega
/- the closures of ways -/
theorem c412 {t : T} : call 412 [.agg t.cells] S = some (.lst 0 true [], S) := by
  rw [call_keep a412 (by simp) rfl]; simp [f412, f412b]
theorem c415 {t : T} : call 415 [.agg t.cells] S = some (lstT t.kids, S) := by
  rw [call_keep a415 (by simp) rfl]; simp [f415, f415b]
theorem c413 {t a b : T} (h : t.kids = [a, b]) : call 413 [.agg t.cells] S = some (.lst 3 false [a.cells], S) := by
  rw [call_keep a413 (by simp) rfl]
  have e : pev (.sliceL 3 false true false) [lstT t.kids, .i 1] = some (.lst 3 false [a.cells]) := by rw [h]; rfl
  simp [f413, f413b, e]
theorem c414 {t a b : T} (h : t.kids = [a, b]) : call 414 [.agg t.cells] S = some (.lst 3 false [b.cells], S) := by
  rw [call_keep a414 (by simp) rfl]
  have e : pev (.sliceL 3 true false false) [lstT t.kids, .i 1] = some (.lst 3 false [b.cells]) := by rw [h]; rfl
  simp [f414, f414b, e]
/- Known is kept where its blocks are -/
theorem KN.keep {kid i j : Nat} {L : List T} {M : List (ByteArray × Bool)} (h : KN S kid i j L M v) {S' : AS} (hr : S'.ro = S.ro) (hn : S.n ≤ S'.n) (hh : ∀ x, x < S.n → KOwn kid i j v x → S'.heap x = S.heap x) : KN S' kid i j L M v where
  hk := by rw [hh kid h.lk (.inl rfl)]; exact h.hk
  hi := by rw [hh i h.li (.inr (.inl rfl))]; exact h.hi
  hj := by rw [hh j h.lj (.inr (.inr (.inl rfl)))]; exact h.hj
  rok := by rw [hr]; exact h.rok
  roi := by rw [hr]; exact h.roi
  roj := by rw [hr]; exact h.roj
  ki := h.ki
  kj := h.kj
  ij := h.ij
  lk := by have := h.lk; omega
  li := by have := h.li; omega
  lj := by have := h.lj; omega
  hv := by
    rcases h.hv with hv | ⟨id, e, h1, h2, h3, h4⟩
    · exact .inl hv
    · exact .inr ⟨id, e, by rw [hh id h3 (.inr (.inr (.inr ⟨_, _, _, _, e⟩)))]; exact h1, by rw [hr]; exact h2, by omega, h4⟩
  tidy := h.tidy
  ok := h.ok
theorem KN.all {kid i j : Nat} {L : List T} {M : List (ByteArray × Bool)} (h : KN S kid i j L M v) {l : List T} {z : Nat} {f : Bool} (hz : l ≠ [] → z = 3) (hl : ∀ t ∈ l, t.tidy) (hlen : l.length ≤ 4611686018427387904) :
    ∃ M', KN (St S j M') kid i j L M' v ∧ call 326 [.ptr kid 0 0, .lst z f (l.map T.cells)] S = some (.sc (.bool (mkPL L l)), St S j M') := by
  obtain ⟨M', hM', hc⟩ := @all326 S kid j L l z f hz hlen (fun t ht => mk328 h.ks (t.bulk + 1) t (by omega) (hl t ht)) M h.ok
  rw [h.st] at hc
  exact ⟨M', h.made hM', hc⟩
end
end Abs

namespace Abs
open Go

theorem NQ_fg {tm tm' rgs : List Nat} {e : Nat → AV} (h : NQ tm rgs e) : NQ tm rgs (fgt tm' e) := by
  intro n
  have := h n
  rw [fgt_apply]
  split
  · rw [Bool.or_eq_true]; right; rfl
  · exact this
section
variable {S : AS} {v : AV}
theorem KN.mr {kid i j : Nat} {L : List T} {M : List (ByteArray × Bool)} (h : KN S kid i j L M v) : MR S v L := by
  rcases h.hv with hv | ⟨id, e, h1, h2, h3, _⟩
  · exact .inl hv
  · exact .inr ⟨id, e, h1, h2, h3⟩
def Zw : AV := .agg [.sc .nilFunc, .sc .nilFunc]
/- the way of a term -/
inductive WayR (t : T) : Prop
  | no (h : decL t = none) (lk : ∀ (S : AS) (w : Nat), S.heap w = some (.map W0) → ∀ d rg, opev (.lookup false (.agg [.sc .nilFunc, .sc .nilFunc]) true) d rg S [.mp w, .sc (.int .i64 t.kind)] = some (.tup [.agg [.sc .nilFunc, .sc .nilFunc], .sc (.bool false)], none, S))
  | yes (k1 k2 : Nat) (n g : List T) (z1 z2 : Nat) (f1 f2 : Bool) (h : decL t = some (n, g)) (lk : ∀ (S : AS) (w : Nat), S.heap w = some (.map W0) → ∀ d rg, opev (.lookup false (.agg [.sc .nilFunc, .sc .nilFunc]) true) d rg S [.mp w, .sc (.int .i64 t.kind)] = some (.tup [.agg [.fn k1 [] [], .fn k2 [] []], .sc (.bool true)], none, S))
    (c1 : ∀ S, call k1 [.agg t.cells] S = some (.lst z1 f1 (n.map T.cells), S)) (c2 : ∀ S, call k2 [.agg t.cells] S = some (.lst z2 f2 (g.map T.cells), S)) (q1 : n ≠ [] → z1 = 3) (q2 : g ≠ [] → z2 = 3)
theorem two_kids {t : T} (h : t.tidy) (hk : kdn t.kind = 2) : ∃ a b, t.kids = [a, b] := by
  have h3 := (T.one_iff.1 ((Bool.and_eq_true _ _ ▸ (t.rshp_def ▸ h.rshp)) : _ ∧ _).1).2.2
  have : t.kids.length = 2 := by omega
  match hl : t.kids, this with
  | [a, b], _ => exact ⟨a, b, rfl⟩
theorem lk_w0 {k : Int} {f : Option (Nat × AV)} (hf : findK (.int .i64 k) W0 0 = some f) (S : AS) (w : Nat) (hw : S.heap w = some (.map W0)) (d : Option Nat) (rg : Nat → Option (List AV)) :
    opev (.lookup false (.agg [.sc .nilFunc, .sc .nilFunc]) true) d rg S [.mp w, .sc (.int .i64 k)] = some (.tup [lookVal (.agg [.sc .nilFunc, .sc .nilFunc]) f, .sc (.bool f.isSome)], none, S) := by
  simp only [opev, hw, isStr, ne_eq, not_true, if_false, Option.bind_some, hf, Option.map_some, if_true]
theorem way_of {t : T} (h : t.tidy) : WayR t := by
  by_cases h3 : t.kind = 3
  · have e : AV.lst (if t.kids = [] then 0 else 3) false (t.kids.map T.cells) = lstT t.kids := by
      unfold lstT lstN; cases t.kids <;> simp
    refine .yes 412 415 [] t.kids 0 (if t.kids = [] then 0 else 3) true false (by unfold decL; rw [if_pos h3]) ?_ (fun S => c412) (fun S => by rw [e]; exact c415) (fun h => absurd rfl h) (fun h => if_neg h)
    intro S w hw d rg
    rw [h3]
    exact lk_w0 (f := some (0, .agg [.fn 412 [] [], .fn 415 [] []])) rfl S w hw d rg
  · by_cases h4 : t.kind = 4
    · obtain ⟨a, b, hab⟩ := two_kids h (by rw [h4]; rfl)
      refine .yes 413 414 [a] [b] 3 3 false false (by unfold decL; rw [if_neg h3, if_pos h4, hab]; rfl) ?_ (fun S => c413 hab) (fun S => c414 hab) (fun _ => rfl) (fun _ => rfl)
      intro S w hw d rg
      rw [h4]
      exact lk_w0 (f := some (1, .agg [.fn 413 [] [], .fn 414 [] []])) rfl S w hw d rg
    · by_cases h10 : t.kind = 10
      · obtain ⟨a, b, hab⟩ := two_kids h (by rw [h10]; rfl)
        refine .yes 414 413 [b] [a] 3 3 false false (by unfold decL; rw [if_neg h3, if_neg h4, if_pos h10, hab]; rfl) ?_ (fun S => c414 hab) (fun S => c413 hab) (fun _ => rfl) (fun _ => rfl)
        intro S w hw d rg
        rw [h10]
        exact lk_w0 (f := some (2, .agg [.fn 414 [] [], .fn 413 [] []])) rfl S w hw d rg
      · refine .no (by unfold decL; rw [if_neg h3, if_neg h4, if_neg h10]) ?_
        intro S w hw d rg
        have hf : findK (.int .i64 t.kind) W0 0 = some none := by
          unfold W0
          simp only [findK, sameKey, if_true]
          have e1 : (t.kind == 3) = false := by simp [h3]
          have e2 : (t.kind == 4) = false := by simp [h4]
          have e3 : (t.kind == 10) = false := by simp [h10]
          rw [e1, e2, e3]
        exact lk_w0 hf S w hw d rg
/- the state of a round -/
structure RdW (S : AS) (kid i j w : Nat) (L : List T) (M : List (ByteArray × Bool)) (v : AV) : Prop where
  kn : KN S kid i j L M v
  hw : S.heap w = some (.map W0)
  lw : w < S.n
  nw : ¬ KOwn kid i j v w
  lo : ∀ x, x < i → ¬ KOwn kid i j v x
theorem RdW.ro {kid i j w : Nat} {L : List T} {M : List (ByteArray × Bool)} (h : RdW S kid i j w L M v) : S.ro ≤ S.n := by have := h.kn.rok; have := h.kn.lk; omega
theorem RdW.made {kid i j w : Nat} {L : List T} {M M' : List (ByteArray × Bool)} (h : RdW S kid i j w L M v) (h' : KN (St S j M') kid i j L M' v) : RdW (St S j M') kid i j w L M' v :=
  ⟨h', (st_heap (fun e => h.nw (.inr (.inr (.inl e))))).trans h.hw, h.lw, h.nw, h.lo⟩
theorem flat_take {α β : Type} {f : α → List β} {l : List α} {q : Nat} {t : α} (h : l[q]? = some t) : (l.take (q + 1)).flatMap f = (l.take q).flatMap f ++ f t := by
  rw [List.take_add_one, h]; simp
theorem flat_len {f : T → List T} {b : Nat} : ∀ {l : List T}, (∀ t ∈ l, (f t).length ≤ b) → (l.flatMap f).length ≤ l.length * b
  | [], _ => by simp
  | a :: l, h => by
    have h1 := h a List.mem_cons_self
    have h2 := @flat_len f b l fun t ht => h t (List.mem_cons_of_mem _ ht)
    rw [List.flatMap_cons, List.length_append, List.length_cons, Nat.succ_mul]
    omega
theorem moreL_len {L : List T} {t : T} : (moreL L t).length ≤ t.kids.length := by
  unfold moreL
  split
  · rename_i n g hd
    split
    · unfold decL at hd
      split at hd
      · cases hd; exact Nat.le_refl _
      · split at hd
        · cases hd; simp
        · split at hd
          · cases hd; rw [List.length_take]; omega
          · cases hd
    · simp
  · simp
end
end Abs

namespace Abs
open Go

abbrev N8 (e : Nat → AV) : Prop := NQ [8, 9, 10, 34, 35, 36, 37, 38, 39, 40, 41, 42, 43, 44, 45, 46, 47, 48, 49, 50, 51, 52, 53, 54, 55, 56, 57, 58, 59] [8, 9] e
abbrev N12 (e : Nat → AV) : Prop := NQ [12, 63, 64, 65, 66, 67, 68, 69] [12] e
abbrev NA (e : Nat → AV) : Prop := NQ [6, 8, 9, 10, 12, 16, 17, 18, 19, 20, 21, 22, 23, 24, 25, 26, 27, 28, 29, 30, 31, 32, 33, 34, 35, 36, 37, 38, 39, 40, 41, 42, 43, 44, 45, 46, 47, 48, 49, 50, 51, 52, 53, 54, 55, 56, 57, 58, 59, 60, 61, 62, 63, 64, 65, 66, 67, 68, 69] [8, 9, 12] e
/- what is right of a list that was taken apart -/
structure AnP (frame U L : List T) : Prop where
  nodup : L.Nodup
  has : ∀ t ∈ frame, t ∈ L
  sub : ∀ t ∈ L, t ∈ U
  least : ∀ Q : List T, (∀ t ∈ frame, t ∈ Q) → (∀ t ∈ Q, ∀ u ∈ moreL Q t, u ∈ Q) → ∀ t ∈ L, t ∈ Q
def AnR (frame U : List T) (n0 : Nat) (r : Option (AV × AS)) : Prop := ∃ S' M v kid i j L, r = some (.ptr kid 0 0, S') ∧ KN S' kid i j L M v ∧ AnP frame U L ∧ (∀ t ∈ L, ∀ u ∈ moreL L t, u ∈ L) ∧ ∀ x, x < n0 → ¬ KOwn kid i j v x
structure UOk (U : List T) : Prop where
  tidy : ∀ t ∈ U, t.tidy
  kids : ∀ t ∈ U, ∀ u ∈ t.kids, u ∈ U
  len : U.length ≤ 1000
  klen : ∀ t ∈ U, t.kids.length ≤ 500
theorem AnP.more {frame U L : List T} (h : AnP frame U L) (hU : UOk U) : AnP frame U (addA L (L.flatMap (moreL L))) where
  nodup := addA_nodup h.nodup
  has := fun t ht => addA_mem.2 (.inl (h.has t ht))
  sub := fun t ht => by
    rcases addA_mem.1 ht with ht | ht
    · exact h.sub t ht
    · obtain ⟨u, hu, ht⟩ := List.mem_flatMap.1 ht
      exact hU.kids u (h.sub u hu) t (moreL_kids ht)
  least := fun Q h1 h2 t ht => by
    rcases addA_mem.1 ht with ht | ht
    · exact h.least Q h1 h2 t ht
    · obtain ⟨u, hu, ht⟩ := List.mem_flatMap.1 ht
      exact h2 u (h.least Q h1 h2 u hu) t (moreL_mono (h.least Q h1 h2) ht)
def mu230 (U : List T) (a : List T × Int) : Nat := 2 * (U.length - a.1.length) + (if a.2 < (a.1.length : Int) then 1 else 0)
section
variable {S : AS}
set_option maxHeartbeats 16000000 in
set_option maxRecDepth 100000 in
theorem c230x {x0 : AV} {frame U : List T} (hts : IsTs S x0 frame) (hxn : x0.nrm = x0) (hU : UOk U) (hf : ∀ t ∈ frame, t ∈ U) (hfl : frame.length ≤ 1000) (hS : S.ro ≤ S.n) : AnR frame U S.n (call 230 [x0] S) := by
  have hxr := hts.reg
  rw [call_keep a230 (by simp [hxr]) rfl]
  obtain ⟨S1, M1, v1, e257, k1, r1, n1, x1⟩ := c257x hts hxn (fun t ht => hU.tidy t (hf t ht)) hfl hS
  obtain ⟨S2, e325, w2, n2, r2, x2⟩ := @c325 S1 (by rw [r1]; omega)
  have k2 : KN S2 (S.n + 2) S.n (S.n + 1) (addA [] frame) M1 v1 := k1.keep (by rw [r2]) (by omega) fun x hx _ => x2 x (by omega)
  have d2 : RdW S2 (S.n + 2) S.n (S.n + 1) S1.n (addA [] frame) M1 v1 := ⟨k2, w2, by omega, by
    rintro (h | h | h | ⟨a, b, c, d, h⟩)
    · omega
    · omega
    · omega
    · rcases k1.hv with ⟨_, e⟩ | ⟨id, e, _, _, hl, _⟩
      · rw [e] at h; cases h
      · rw [e] at h; cases h; omega, fun x hx => (x1 x hx).2⟩
  have p2 : AnP frame U (addA [] frame) := ⟨addA_nodup List.nodup_nil, fun t ht => addA_mem.2 (.inr ht), fun t ht => by
      rcases addA_mem.1 ht with h | h
      · cases h
      · exact hf t h, fun Q h1 _ t ht => by
      rcases addA_mem.1 ht with h | h
      · cases h
      · exact h1 t h⟩
  generalize S.n + 2 = kid at *
  generalize hii : S.n = i at *
  generalize i + 1 = j at *
  generalize S1.n = w at *
  simp only [f230]
  simp [f230b, e257, e325, hxr]
  refine loop_genR (α := List T × Int) (R := fun _ r => AnR frame U i r) (fun a e rg S' => NA e ∧ N8 e ∧ N12 e ∧ e 3 = .ptr kid 0 0 ∧ e 4 = .mp w ∧ e 5 = .sc (.int .i64 a.2) ∧ AnP frame U a.1 ∧ (∃ M v, RdW S' kid i j w a.1 M v) ∧ a.2 ≤ a.1.length ∧ (a.2 = -1 ∨ ∃ Lp : List T, a.2 = Lp.length ∧ a.1 = addA Lp (Lp.flatMap (moreL Lp)))) (mu230 U) (fun _ _ _ _ h => h.1) ?_ (addA [] frame, -1) _ _ _ ?_
  rotate_left
  · refine ⟨?_, ?_, ?_, by simp, by simp, by simp, p2, ⟨M1, v1, d2⟩, by simp only; omega, .inl rfl⟩ <;>
    repeat (first | exact NQ_ini (by simp [hxr]) | refine NQ_put ?_ (by simp [hxr]))
  intro kk hkk ⟨L, was⟩ e rg S' ⟨hna, h8, h12, g3, g4, g5, hp, ⟨M, v, hd⟩, hw1, hw2⟩ ih
  simp only at g5 hp hd hw1 hw2
  have hK := hd.kn
  have hLU := nodup_le hp.nodup hp.sub
  have hUl := hU.len
  have hld : ∀ d rg, opev (.ld none 1 false) d rg S' [.ptr kid 0 0] = some (v, none, S') := fun d rg => by
    rw [opev_ld_ptr hK.hk]; simp [getCells]
  have hlen := hK.len
  have hvr := hK.reg
  by_cases hc : was < (L.length : Int)
  · simp [f230_l2, g3, g4, g5, hld, hlen, hvr, hc]
    have hRl : ∀ q, ((L.take q).flatMap (moreL L)).length ≤ 500000 := fun q => by
      have h1 := @flat_len (moreL L) 500 (L.take q) fun t ht => Nat.le_trans moreL_len (hU.klen t (hp.sub t (List.mem_of_mem_take ht)))
      have h2 : (L.take q).length ≤ L.length := by rw [List.length_take]; omega
      have h3 : (L.take q).length * 500 ≤ 1000 * 500 := Nat.mul_le_mul_right _ (by omega)
      omega
    refine loop_genR (α := Nat) (R := fun _ r => AnR frame U i r) (fun q e rg S'' => q ≤ L.length ∧ N8 e ∧ NA e ∧ N12 e ∧ e 3 = .ptr kid 0 0 ∧ e 4 = .mp w ∧ e 5 = .sc (.int .i64 (L.length : Nat)) ∧ e 31 = v ∧ e 32 = .sc (.int .i64 (L.length : Nat)) ∧ e 33 = .sc (.int .i64 (q : Nat)) ∧
      ∃ M, RdW S'' kid i j w L M v ∧ MR S'' (e 6) ((L.take q).flatMap (moreL L)) ∧ ∀ x, IsArr (e 6) x → ¬ KOwn kid i j v x ∧ x ≠ w) (fun q => L.length - q) (fun _ _ _ _ h => h.2.1) ?_ 0 _ _ _ ?_
    rotate_left
    · refine ⟨by omega, ?_, ?_, ?_, by simp [g3], by simp [g4], by simp, by simp, by simp, by simp, M, hd, by simpa using .inl ⟨rfl, rfl⟩, ?_⟩
      · repeat (first | exact NQ_fg h8 | refine NQ_put ?_ (by simp [hvr]))
      · repeat (first | exact NQ_fg hna | refine NQ_put ?_ (by simp [hvr]))
      · repeat (first | exact NQ_fg h12 | refine NQ_put ?_ (by simp [hvr]))
      · rintro x ⟨a, b, c, d, e⟩; simp at e
    intro kk1 hkk1 q e1 rg1 S2' ⟨hq, n8, nA, n12, u3, u4, u5, u31, u32, u33, M2, hd2, hm2, hx2⟩ ih1
    have hK2 := hd2.kn
    by_cases hcq : q < L.length
    · obtain ⟨t, ht⟩ := get_of_lt hcq
      have htm := List.mem_of_getElem? ht
      have hty := hU.tidy t (hp.sub t htm)
      have w2 : IntKind.i64.wrap ((q : Int) + 1) = ((q + 1 : Nat) : Int) := w64 (by omega)
      have hcq' : (q : Int) < (L.length : Int) := by omega
      obtain ⟨p, a1, a2, a3⟩ := hK2.mr.at ht
      have hRq := hRl q
      have hRq1 := hRl (q + 1)
      have hft := @flat_take T T (moreL L) L q t ht
      have hmr := hm2.reg
      rcases way_of hty with ⟨hdec, lk⟩ | ⟨c1, c2, n, g, z1, z2, f1, f2, hdec, lk, e1c, e2c, q1, q2⟩
      · have hm0 : moreL L t = [] := by unfold moreL; rw [hdec]
        rw [hm0, List.append_nil] at hft
        have lk' := lk S2' w hd2.hw
        simp [f230_l1, u3, u4, u31, u32, u33, hcq', a1, a2, a3, lk', w2]
        refine ih1 (q + 1) _ _ _ (by omega) (fun _ h => h) ?_
        refine ⟨by omega, ?_, ?_, ?_, by simp [u3], by simp [u4], by simp [u5], by simp [u31], by simp [u32], by simp, M2, hd2, by rw [hft]; simpa using hm2, by simpa using hx2⟩
        · repeat (first | exact NQ_fg n8 | refine NQ_put ?_ (by simp [a2]))
        · repeat (first | exact NQ_fg nA | refine NQ_put ?_ (by simp [a2]))
        · repeat (first | exact NQ_fg n12 | refine NQ_put ?_ (by simp [a2]))
      · have hkk' := decL_kids hdec
        have hnt : ∀ u ∈ n, u.tidy := fun u hu => hty.kid (hkk'.1 u hu)
        have hnl : n.length ≤ 4611686018427387904 := by
          have h1 := t.bulk_len
          have h2 := hty.bulk
          have : n.length ≤ t.kids.length := by
            unfold decL at hdec
            split at hdec
            · cases hdec; simp
            · split at hdec
              · cases hdec; rw [List.length_take]; omega
              · split at hdec
                · cases hdec; simp
                · cases hdec
          omega
        obtain ⟨M3, hK3, hall⟩ := hK2.all q1 hnt hnl (f := f1)
        have lk' := lk S2' w hd2.hw
        have hd3 := hd2.made hK3
        have hm3 : MR (St S2' j M3) (e1 6) ((L.take q).flatMap (moreL L)) := hm2.keep rfl (Nat.le_refl _) fun x _ hx => st_heap (fun e => (hx2 x hx).1 (.inr (.inr (.inl e))))
        cases hb : mkPL L n with
        | false =>
          rw [hb] at hall
          have hm0 : moreL L t = [] := by unfold moreL; rw [hdec]; simp [hb]
          rw [hm0, List.append_nil] at hft
          simp [f230_l1, u3, u4, u31, u32, u33, hcq', a1, a2, a3, lk', e1c, hall, w2]
          refine ih1 (q + 1) _ _ _ (by omega) (fun _ h => h) ?_
          refine ⟨by omega, ?_, ?_, ?_, by simp [u3], by simp [u4], by simp [u5], by simp [u31], by simp [u32], by simp, M3, hd3, by rw [hft]; simpa using hm3, by simpa using hx2⟩
          · repeat (first | exact NQ_fg n8 | refine NQ_put ?_ (by simp [a2]))
          · repeat (first | exact NQ_fg nA | refine NQ_put ?_ (by simp [a2]))
          · repeat (first | exact NQ_fg n12 | refine NQ_put ?_ (by simp [a2]))
        | true =>
          rw [hb] at hall
          have hm0 : moreL L t = g := by unfold moreL; rw [hdec]; simp [hb]
          rw [hm0] at hft
          have hgl : ((L.take q).flatMap (moreL L)).length + g.length ≤ 1000000 := by
            rw [hft, List.length_append] at hRq1; omega
          obtain ⟨v6, S4, hap, hm4, r4, n4, x4⟩ := hm3.app (f := f2) hd3.ro q2 hgl
          have hv6r := hm4.reg
          have hd4 : RdW S4 kid i j w L M3 v := ⟨hK3.keep r4 n4 fun x hx hk => (x4 x hx fun ha => (hx2 x ha).1 hk).1, by
            rw [(x4 w hd3.lw fun ha => (hx2 w ha).2 rfl).1]; exact hd3.hw, by have := hd3.lw; omega, hd3.nw, hd3.lo⟩
          simp [f230_l1, u3, u4, u31, u32, u33, hcq', a1, a2, a3, lk', e1c, e2c, hall, hap, hmr, hv6r, w2]
          refine ih1 (q + 1) _ _ _ (by omega) (fun _ h => h) ?_
          refine ⟨by omega, ?_, ?_, ?_, by simp [u3], by simp [u4], by simp [u5], by simp [u31], by simp [u32], by simp, M3, hd4, by rw [hft]; simpa using hm4, ?_⟩
          · repeat (first | exact NQ_fg n8 | refine NQ_put ?_ (by simp [a2, hmr, hv6r]))
          · repeat (first | exact NQ_fg nA | refine NQ_put ?_ (by simp [a2, hmr, hv6r]))
          · repeat (first | exact NQ_fg n12 | refine NQ_put ?_ (by simp [a2, hmr, hv6r]))
          · intro x hx
            have hx : IsArr v6 x := by simpa using hx
            refine ⟨fun hk => ?_, ?_⟩
            · have hlt : x < (St S2' j M3).n := by
                rcases hk with e | e | e | ⟨a, b, c, d, e⟩
                · rw [e]; exact hd3.kn.lk
                · rw [e]; exact hd3.kn.li
                · rw [e]; exact hd3.kn.lj
                · rcases hd3.kn.hv with ⟨_, e'⟩ | ⟨id, e', _, _, hl, _⟩
                  · rw [e'] at e; cases e
                  · rw [e'] at e; cases e; exact hl
              exact (x4 x hlt fun ha => (hx2 x ha).1 hk).2 hx
            · rintro rfl
              exact (x4 x hd3.lw fun ha => (hx2 x ha).2 rfl).2 hx
    · have hq' : q = L.length := by omega
      subst hq'
      rw [List.take_length] at hm2
      have hRL := hRl L.length
      rw [List.take_length] at hRL
      generalize hRR : L.flatMap (moreL L) = RR at *
      have hlen6 := hm2.len
      have hmr := hm2.reg
      simp [f230_l1, u32, u33]
      rw [hkk1]
      clear hkk1 ih1
      simp [u3, u4, u5, hlen6, hmr]
      obtain ⟨v6, hv6⟩ : ∃ v6, v6 = e1 6 := ⟨_, rfl⟩
      rw [← hv6] at hm2 hx2 hlen6 hmr
      refine loop_genR (α := Nat) (R := fun _ r => AnR frame U i r) (fun q e rg S'' => q ≤ RR.length ∧ N12 e ∧ NA e ∧ N8 e ∧ e 3 = .ptr kid 0 0 ∧ e 4 = .mp w ∧ e 5 = .sc (.int .i64 (L.length : Nat)) ∧ e 60 = v6 ∧ e 61 = .sc (.int .i64 (RR.length : Nat)) ∧ e 62 = .sc (.int .i64 (q : Nat)) ∧
        ∃ M v, RdW S'' kid i j w (addA L (RR.take q)) M v ∧ MR S'' v6 RR ∧ ∀ x, IsArr v6 x → ¬ KOwn kid i j v x ∧ x ≠ w) (fun q => RR.length - q) (fun _ _ _ _ h => h.2.1) ?_ 0 _ _ _ ?_
      rotate_left
      · refine ⟨by omega, ?_, ?_, ?_, by simp [u3], by simp [u4], by simp [u5], by simp [hv6], by simp, by simp, M2, v, hd2, hm2, hx2⟩
        · repeat (first | exact NQ_fg n12 | refine NQ_put ?_ (by simp [← hv6, hmr]))
        · repeat (first | exact NQ_fg nA | refine NQ_put ?_ (by simp [← hv6, hmr]))
        · repeat (first | exact NQ_fg n8 | refine NQ_put ?_ (by simp [← hv6, hmr]))
      clear hm2 hx2 hd2 hK2
      intro kk0 hkk0 q e2 rg2 S3' ⟨hq, n12, nA, n8, u3, u4, u5, u60, u61, u62, M3, v3, hd3, hm3, hx3⟩ ih0
      by_cases hc0 : q < RR.length
      · obtain ⟨t, ht⟩ := get_of_lt hc0
        have htU : t ∈ U := by
          have htm := List.mem_of_getElem? ht
          rw [← hRR] at htm
          obtain ⟨u, hu, h⟩ := List.mem_flatMap.1 htm
          exact hU.kids u (hp.sub u hu) t (moreL_kids h)
        have w2 : IntKind.i64.wrap ((q : Int) + 1) = ((q + 1 : Nat) : Int) := w64 (by omega)
        have hcq' : (q : Int) < (RR.length : Int) := by omega
        obtain ⟨p, a1, a2, a3⟩ := hm3.at ht
        have hal := @addA_len (RR.take q) L
        rw [List.length_take] at hal
        obtain ⟨S4, M4, v4, hcall, hK4, r4, n4, x4⟩ := c327 hd3.kn (hU.tidy t htU) (by omega)
        rw [← addA_take ht] at hK4
        have hxw := x4 w hd3.lw hd3.nw
        simp [f230_l0, u3, u60, u61, u62, hcq', a1, a2, a3, hcall, w2]
        refine ih0 (q + 1) _ _ _ (by omega) (fun _ h => h) ?_
        refine ⟨by omega, ?_, ?_, ?_, by simp [u3], by simp [u4], by simp [u5], by simp [u60], by simp [u61], by simp, M4, v4, ⟨hK4, hxw.1.trans hd3.hw, by have := hd3.lw; omega, hxw.2, fun x hx => (x4 x (by have := hd3.kn.li; omega) (hd3.lo x hx)).2⟩, hm3.keep r4 n4 fun x hx ha => (x4 x hx (hx3 x ha).1).1, fun x ha => ⟨?_, (hx3 x ha).2⟩⟩
        · repeat (first | exact NQ_fg n12 | refine NQ_put ?_ (by simp [a2]))
        · repeat (first | exact NQ_fg nA | refine NQ_put ?_ (by simp [a2]))
        · repeat (first | exact NQ_fg n8 | refine NQ_put ?_ (by simp [a2]))
        · have hlt : x < S3'.n := by
            obtain ⟨a, b, c, d, e⟩ := ha
            rcases hm3 with ⟨_, e'⟩ | ⟨id, e', _, _, hl⟩
            · rw [e'] at e; cases e
            · rw [e'] at e; cases e; exact hl
          exact (x4 x hlt (hx3 x ha).1).2
      · have hq' : q = RR.length := by omega
        subst hq'
        rw [List.take_length] at hd3
        simp [f230_l0, u61, u62]
        rw [hkk0]
        simp
        have hpm := hp.more hU
        rw [hRR] at hpm
        have hLU' := nodup_le hpm.nodup hpm.sub
        have hal := @addA_len RR L
        refine ih (addA L RR, (L.length : Int)) _ _ _ ?_ (fun _ h => h) ?_
        · unfold mu230
          simp only
          rw [if_pos hc]
          split <;> omega
        · refine ⟨?_, ?_, ?_, by simp [u3], by simp [u4], by simp [u5], hpm, ⟨M3, v3, hd3⟩, by simp only; omega, .inr ⟨L, rfl, by simp only [hRR]⟩⟩
          · repeat (first | exact NQ_fg nA | exact nA | refine NQ_put ?_ (by simp))
          · repeat (first | exact NQ_fg n8 | exact n8 | refine NQ_put ?_ (by simp))
          · repeat (first | exact NQ_fg n12 | exact n12 | refine NQ_put ?_ (by simp))
  · simp [f230_l2, g3, g4, g5, hld, hlen, hvr, hc]
    rw [hkk]
    simp [g3]
    have hwas : was = (L.length : Int) := by omega
    refine ⟨S', M, v, kid, i, j, L, rfl, hK, hp, ?_, hd.lo⟩
    rcases hw2 with h | ⟨Lp, h1, h2⟩
    · omega
    · have hLp : L = Lp := by
        have := addA_same (L := Lp) (m := Lp.flatMap (moreL Lp)) (by rw [← h2]; omega)
        rw [← this]; exact h2
      intro t ht u hu
      rw [h2]
      rw [hLp] at ht hu
      exact addA_mem.2 (.inr (List.mem_flatMap.2 ⟨t, ht, hu⟩))
theorem c230 {frame U : List T} (hU : UOk U) (hf : ∀ t ∈ frame, t ∈ U) (hfl : frame.length ≤ 1000) (hS : S.ro ≤ S.n) : AnR frame U S.n (call 230 [lstT frame] S) := c230x isTs_T (by simp) hU hf hfl hS
end
end Abs

namespace Abs
open Go

/- what somebody knows, from a frame -/
structure KnowL (frame U L : List T) : Prop where
  has : ∀ t ∈ frame, t ∈ L
  sub : ∀ t ∈ L, t ∈ U
  least : ∀ Q : List T, (∀ t ∈ frame, t ∈ Q) → (∀ t ∈ Q, ∀ u ∈ moreL Q t, u ∈ Q) → ∀ t ∈ L, t ∈ Q
  closed : ∀ t ∈ L, ∀ u ∈ moreL L t, u ∈ L
section
variable {S : AS}
theorem s129x {x0 : AV} {frame U : List T} {t : T} {b : Bool} (hts : IsTs S x0 frame) (hU : UOk U) (hf : ∀ t ∈ frame, t ∈ U) (hfl : frame.length ≤ 1000) (ht : t.tidy) (hb : ∀ L, KnowL frame U L → mkP L t = b) : call 129 [x0, .agg t.cells] S = some (.sc (.bool b), S) := by
  rw [call_calm' a129 (args' := [x0.nrm, .agg t.cells]) (by simp [hts.reg]) (by simp) rfl]
  obtain ⟨S', M, v, kid, i, j, L, e230, hK, hp, hcl, _⟩ := @c230x ⟨S.heap, S.n, S.n⟩ x0.nrm frame U hts.nrm.ro hts.nn hU hf hfl (Nat.le_refl _)
  obtain ⟨M', hM', hc⟩ := s231 hK.ks ht hK.ok
  rw [hK.st, hb L ⟨hp.has, hp.sub, hp.least, hcl⟩] at hc
  have hr := hts.nrm.reg
  simp [f129, f129b, e230, hc, hr]
theorem s129 {frame U : List T} {t : T} {b : Bool} (hU : UOk U) (hf : ∀ t ∈ frame, t ∈ U) (hfl : frame.length ≤ 1000) (ht : t.tidy) (hb : ∀ L, KnowL frame U L → mkP L t = b) : call 129 [lstT frame, .agg t.cells] S = some (.sc (.bool b), S) := by
  rw [call_calm a129 rfl (by simp) rfl]
  obtain ⟨S', M, v, kid, i, j, L, e230, hK, hp, hcl, _⟩ := @c230 ⟨S.heap, S.n, S.n⟩ frame U hU hf hfl (Nat.le_refl _)
  obtain ⟨M', hM', hc⟩ := s231 hK.ks ht hK.ok
  rw [hK.st, hb L ⟨hp.has, hp.sub, hp.least, hcl⟩] at hc
  simp [f129, f129b, e230, hc]
/- of a list at hand -/
theorem s129l {frame U : List T} {t : T} {b : Bool} {f : Bool} (hne : frame ≠ []) (hU : UOk U) (hf : ∀ t ∈ frame, t ∈ U) (hfl : frame.length ≤ 1000) (ht : t.tidy) (hb : ∀ L, KnowL frame U L → mkP L t = b) : call 129 [.lst 3 f (frame.map T.cells), .agg t.cells] S = some (.sc (.bool b), S) := by
  have e := @s129 S frame U t b hU hf hfl ht hb
  rw [call_nrm a129 (args' := [lstT frame, .agg t.cells]) (by simp) (by simp) (by simp only [nrmL]; rw [lstT_nrm' _ _ _ (fun _ => rfl)]; simp) (by simp) rfl]
  exact e
end
end Abs

namespace Abs
open Go

theorem bulkL_le {b : Nat} : ∀ {l : List T}, (∀ u ∈ l, u.bulk ≤ b) → bulkL l ≤ l.length * b
  | [], _ => by rw [bulkL_nil]; exact Nat.zero_le _
  | t :: l, h => by
    have h1 := h t List.mem_cons_self
    have h2 := @bulkL_le b l fun u hu => h u (List.mem_cons_of_mem _ hu)
    rw [bulkL_cons, List.length_cons, Nat.succ_mul]; omega
theorem tidy_data {s : ByteArray} (h : s ≠ ⟨#[]⟩) (hs : s.size ≤ 1073741824) : (tData s).tidy :=
  ⟨T.right_iff.2 ⟨data_rshp h, by show 1 ≤ 60; omega, rfl⟩, by rw [data_bulk]; omega⟩
theorem tidy_atom {s : ByteArray} (h : s ≠ ⟨#[]⟩) (hs : s.size ≤ 1073741824) : (tAtom s).tidy :=
  ⟨T.right_iff.2 ⟨(fit_iff.1 (atom_fit h)).1, by show 1 ≤ 60; omega, rfl⟩, by rw [atom_bulk]; omega⟩
theorem tidy_pair {l : List T} (h : ∀ u ∈ l, u.tidy) (hd : ∀ u ∈ l, u.dp ≤ 58) (hb : bulkL l ≤ 1099511627000) : (tPair l).tidy := by
  refine ⟨T.right_iff.2 ⟨pair_rshp fun u hu => (h u hu).rshp, ?_, pair_ord fun u hu => (T.right_iff.1 (h u hu).right).2.2⟩, by rw [pair_bulk]; omega⟩
  rw [T.dp_def]
  have : dpL (tPair l).kids ≤ 58 := dpL_le fun u hu => hd u hu
  omega
theorem pair_dp {l : List T} {d : Nat} (hd : ∀ u ∈ l, u.dp ≤ d) : (tPair l).dp ≤ d + 1 := by
  rw [T.dp_def]
  have : dpL (tPair l).kids ≤ d := dpL_le fun u hu => hd u hu
  omega
theorem word_ne {s : ByteArray} : eqB s ≠ ⟨#[]⟩ := by unfold eqB; exact app_nonempty (by show 1 ≠ 0; omega)
theorem eqB_size {s : ByteArray} : (eqB s).size = s.size + 1 := by
  unfold eqB; rw [ByteArray.size_append]
  have : (⟨#[61]⟩ : ByteArray).size = 1 := rfl
  omega
theorem tidy_word {s : ByteArray} (hs : s.size ≤ 1073741000) : (tWord s).tidy := tidy_data (s := eqB s) word_ne (by rw [eqB_size]; omega)
theorem mk_data {L : List T} {s : ByteArray} : mkP L (tData s) = true := by
  rw [mkP_def]
  have : (tData s).kind = 1 := rfl
  rw [if_pos this, Bool.or_true]
theorem mk_word {L : List T} {s : ByteArray} : mkP L (tWord s) = true := @mk_data L (eqB s)
theorem mk_pair {L : List T} {l : List T} : mkP L (tPair l) = (inL L (tPair l) || l.all (mkP L)) := by
  rw [mkP_def, ← mkPL_all]
  rfl
theorem mk_in {L : List T} {t : T} (h : t ∈ L) : mkP L t = true := by rw [mkP_def, inL_iff.2 h]; rfl
theorem mk_words {L : List T} {l : List ByteArray} : mkP L (tPair (wordsT l)) = true := by
  rw [mk_pair, Bool.or_eq_true]; right
  rw [List.all_eq_true]; intro u hu
  obtain ⟨s, _, rfl⟩ := List.mem_map.1 hu
  exact mk_word
theorem more_pair {L l : List T} : moreL L (tPair l) = l := by
  unfold moreL decL
  have : (tPair l).kind = 3 := rfl
  rw [if_pos this]
  simp [mkPL]; rfl
theorem uok_nil : UOk [] := ⟨fun t ht => absurd ht List.not_mem_nil, fun t ht => absurd ht List.not_mem_nil, by simp, fun t ht => absurd ht List.not_mem_nil⟩
section
variable {S : AS}
/- known to who has heard nothing -/
theorem k_nil {t : T} {b : Bool} (ht : t.tidy) (hb : mkP [] t = b) : call 129 [.lst 0 true [], .agg t.cells] S = some (.sc (.bool b), S) := by
  have e := @s129 S [] [] t b uok_nil (fun t ht => absurd ht List.not_mem_nil) (by simp) ht fun L hL => by
    have : L = [] := List.eq_nil_iff_forall_not_mem.2 fun u hu => absurd (hL.sub u hu) List.not_mem_nil
    rw [this]; exact hb
  rw [call_nrm a129 (args' := [lstT [], .agg t.cells]) (by simp) (by simp) (by simp [nrmL, AV.nrm, nrmR, lstT, lstN]) (by simp) rfl]
  exact e
def secB : ByteArray := ⟨#[115, 101, 99, 114, 101, 116, 32]⟩
end
end Abs
