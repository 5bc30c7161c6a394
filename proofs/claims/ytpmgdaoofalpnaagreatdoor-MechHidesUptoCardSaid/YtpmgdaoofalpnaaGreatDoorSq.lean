/- Terms built, and told by the other side. -/
import Derived.Test.YtpmgdaoofalpnaaGreatDoorSp
set_option linter.unusedVariables false
set_option linter.unusedSimpArgs false
set_option linter.unusedSectionVars false
namespace Abs
open Go
section
variable {S : AS}
@[simp] theorem s128 {a b : T} : call 128 [.agg a.cells, .agg b.cells] S = some (.agg (tEnc a b).cells, S) := by
  rw [call_calm a128 rfl (by simp) rfl]
  simp [f128, f128b, tEnc, T.cells, rowsT]
@[simp] theorem s124 {a : T} : call 124 [.agg a.cells] S = some (.agg (tHash a).cells, S) := by
  rw [call_calm a124 rfl (by simp) rfl]
  simp [f124, f124b, tHash, T.cells, rowsT]
@[simp] theorem s125 {a b : T} : call 125 [.agg a.cells, .agg b.cells] S = some (.agg (tMask a b).cells, S) := by
  rw [call_calm a125 rfl (by simp) rfl]
  simp [f125, f125b, tMask, T.cells, rowsT]

end
end Abs

namespace Abs
open Go
section
variable {S : AS}
@[simp] theorem s360 {a : T} : call 360 [.agg a.cells] S = some (.agg (tPub a).cells, S) := by
  rw [call_calm a360 rfl (by simp) rfl]
  simp [f360, f360b, tPub, T.cells, rowsT]
@[simp] theorem s312 {a : T} {n : ByteArray} : call 312 [.agg a.cells, .sc (.string n)] S = some (.agg (tKdf a n).cells, S) := by
  rw [call_calm a312 rfl (by simp) rfl]
  simp [f312, f312b, tKdf, T.cells, rowsT]
@[simp] theorem s259 {a : T} {n : ByteArray} : call 259 [.agg a.cells, .sc (.string n)] S = some (.agg (tKdf a n).cells, S) := by
  rw [call_calm a259 rfl (by simp) rfl]
  simp [f259, f259b, tKdf, T.cells, rowsT]
end
end Abs

namespace Abs
open Go

def knd (k : Int) : Bool := decide (1 ≤ k ∧ k ≤ 10)
def nmd (k : Int) : Bool := decide (k = 1 ∨ k = 2 ∨ k = 7)
def kdn (k : Int) : Int := if k = 3 then -1 else if k = 1 ∨ k = 2 then 0 else if k = 6 ∨ k = 7 ∨ k = 8 then 1 else 2
def ltr (k : Int) : ByteArray := ⟨#[if k = 1 then 100 else if k = 2 then 97 else if k = 3 then 112 else if k = 4 then 101 else if k = 5 then 109 else if k = 6 then 104 else if k = 7 then 107 else if k = 8 then 117 else if k = 9 then 115 else 120]⟩
def T.one (t : T) : Bool := knd t.kind && (nmd t.kind != decide (t.name = ⟨#[]⟩)) && (decide (kdn t.kind < 0) || decide ((t.kids.length : Int) = kdn t.kind))
def T.shp : Nat → T → Bool
  | 0, _ => false
  | d + 1, t => t.one && t.kids.all (T.shp d)

theorem knd_cases {k : Int} (h : knd k = true) : k = 1 ∨ k = 2 ∨ k = 3 ∨ k = 4 ∨ k = 5 ∨ k = 6 ∨ k = 7 ∨ k = 8 ∨ k = 9 ∨ k = 10 := by
  simp only [knd, decide_eq_true_eq] at h; omega
theorem kindAt {k : Int} (h : knd k = true) : pev (.iaddrA 3 11) [.iptr kindsV, .sc (.int .i64 k)] = some (.iptr (.sc (.string (ltr k)) :: .sc (.int .i64 (kdn k)) :: .sc (.bool (nmd k)) :: kindsV.drop (k.toNat * 3 + 3))) := by
  rcases knd_cases h with rfl | rfl | rfl | rfl | rfl | rfl | rfl | rfl | rfl | rfl <;> rfl
theorem glob0 : AA.glob 0 = some (.iptr kindsV) := rfl

section
variable {S : AS}
@[simp] theorem s319 {t : T} : call 319 [.agg t.cells] S = some (.sc (.bool (knd t.kind)), S) := by
  rw [call_calm a319 rfl (by simp) rfl]
  by_cases h : 1 ≤ t.kind
  · simp [f319, f319b, knd, h]
  · simp [f319, f319b, knd, h]

@[simp] theorem pev_ibox_sc {v : Value} : pev .ibox [.sc v] = some (.iptr [.sc v]) := rfl
/- IndexFunc, ContainsFunc -/
theorem s408 {f : AV} {k : Nat} {c : List AV} {l : List T} {g : T → Bool} (hf : f = .fn k [] c) (hl : l.length ≤ 4611686018427387904)
    (hg : ∀ t ∈ l, ∀ S', call k (.agg t.cells :: c) S' = some (.sc (.bool (g t)), S')) : call 408 [lstT l, f] S = some (.sc (.int .i64 (match l.findIdx? g with | some i => i | none => -1)), S) := by
  have hr : f.isReg = false := by rw [hf]; rfl
  rw [call_keep a408 (by simp [hr]) rfl]
  simp only [f408]
  simp [f408b, -calmR_some, hr]
  refine loop_gen (α := Nat) (R := fun _ r => r = some (.sc (.int .i64 (match l.findIdx? g with | some i => i | none => -1)), S)) (fun i e rg S' => i ≤ l.length ∧ S' = S ∧ e 0 = lstT l ∧ e 1 = f ∧ e 7 = .sc (.int .i64 (l.length : Nat)) ∧ e 8 = .sc (.int .i64 (i : Nat)) ∧ (∀ t ∈ l.take i, g t = false)) (fun i => l.length - i) ?_ 0 _ _ _ ?_
  rotate_left
  · exact ⟨by omega, rfl, by simp, by simp, by simp, by simp, fun t ht => by simp at ht⟩
  intro kk hkk i e rg S' ⟨hi, hS, h0, h1, h7, h8, hno⟩ ih
  subst hS
  by_cases hc : i < l.length
  · have hc' : (i : Int) < l.length := by omega
    obtain ⟨t, ht⟩ : ∃ t, l[i]? = some t := ⟨l[i], by simp [hc]⟩
    have hgt := hg t (List.mem_of_getElem? ht)
    have w1 : IntKind.i64.wrap ((i : Int) + 1) = ((i + 1 : Nat) : Int) := w64 (by omega)
    have hci : callvA AA = callvA AA := rfl
    cases hb : g t with
    | true =>
      rw [hb] at hgt
      simp [f408_l0, h0, h1, h7, h8, hc', lstT_at ht, hf, hgt, -calmR_some]
      have hfi : l.findIdx? g = some i := by
        rw [List.findIdx?_eq_some_iff_getElem]
        obtain ⟨hh, e1⟩ := List.getElem?_eq_some_iff.1 ht
        refine ⟨hh, by rw [e1]; exact hb, fun j hj => ?_⟩
        have := hno (l[j]'(by omega)) (by rw [List.mem_take_iff_getElem]; exact ⟨j, by omega, rfl⟩)
        simp [this]
      rw [hkk]; simp [hfi]
    | false =>
      rw [hb] at hgt
      simp [f408_l0, h0, h1, h7, h8, hc', lstT_at ht, hf, hgt, w1, -calmR_some]
      refine ih (i + 1) _ _ _ (by omega) (fun _ h => h) ?_
      refine ⟨by omega, rfl, by simp [h0], by simp [h1, hf], by simp [h7], by simp, fun u hu => ?_⟩
      rw [List.take_add_one, ht] at hu
      rcases List.mem_append.1 hu with hu | hu
      · exact hno u hu
      · simp at hu; rw [hu]; exact hb
  · have hc' : ¬ (i : Int) < l.length := by omega
    simp [f408_l0, h0, h1, h7, h8, hc', -calmR_some]
    have hfi : l.findIdx? g = none := by
      rw [List.findIdx?_eq_none_iff]
      intro t ht
      exact hno t (by rw [List.take_of_length_le (by omega)]; exact ht)
    rw [hkk]; simp [hfi]
theorem s320 {f : AV} {k : Nat} {c : List AV} {l : List T} {g : T → Bool} (hf : f = .fn k [] c) (hl : l.length ≤ 4611686018427387904)
    (hg : ∀ t ∈ l, ∀ S', call k (.agg t.cells :: c) S' = some (.sc (.bool (g t)), S')) : call 320 [lstT l, f] S = some (.sc (.bool (l.any g)), S) := by
  have hr : f.isReg = false := by rw [hf]; rfl
  rw [call_keep a320 (by simp [hr]) rfl]
  have e := fun S' => @s408 S' f k c l g hf hl hg
  simp [f320, f320b, e, hr]
  cases hfi : l.findIdx? g with
  | none =>
    rw [List.findIdx?_eq_none_iff] at hfi
    have : l.any g = false := by rw [List.any_eq_false]; intro x hx; rw [hfi x hx]; simp
    simp [this]
  | some i =>
    rw [List.findIdx?_eq_some_iff_getElem] at hfi
    obtain ⟨h1, h2, _⟩ := hfi
    have : l.any g = true := List.any_eq_true.2 ⟨_, List.getElem_mem h1, h2⟩
    simp [this]

/- shape -/
theorem any_not {α : Type} {g : α → Bool} {l : List α} : (!(l.any fun x => !(g x))) = l.all g := by
  induction l with
  | nil => rfl
  | cons x l ih => rw [List.any_cons, List.all_cons, ← ih]; cases g x <;> simp
theorem s321_of {d : Nat} {t : T} (hd : d ≤ 1000) (h : ∀ S, call 221 [.agg t.cells, .sc (.int .i64 (d : Nat))] S = some (.sc (.bool (t.shp d)), S)) :
    call 321 [.agg t.cells, .iptr [.sc (.int .i64 ((d : Int) + 1))]] S = some (.sc (.bool (!(t.shp d))), S) := by
  rw [call_calm a321 rfl (by simp) rfl]
  have w1 : IntKind.i64.wrap (d : Int) = (d : Int) := w64 (by omega)
  simp [f321, f321b, h, w1]
theorem s221 : ∀ {d : Nat} {t : T} {S : AS}, d ≤ 1000 → t.fits → call 221 [.agg t.cells, .sc (.int .i64 (d : Nat))] S = some (.sc (.bool (t.shp d)), S)
  | 0, t, S, _, _ => by
    rw [call_calm a221 rfl (by simp) rfl]
    simp [f221, f221b, T.shp]
  | d + 1, t, S, hd, hf => by
    obtain ⟨hl, hk⟩ := T.fits_kids hf
    rw [call_calm a221 rfl (by simp) rfl]
    have h0 : ¬ ((d : Int) + 1 = 0) := by omega
    have e320 := fun S' => @s320 S' (.fn 321 [] [.iptr [.sc (.int .i64 ((d : Int) + 1))]]) 321 [.iptr [.sc (.int .i64 ((d : Int) + 1))]] t.kids (fun t => !(t.shp d)) rfl hl (fun u hu S'' => s321_of (by omega) (fun S => s221 (by omega) (hk u hu)))
    rw [T.shp, ← any_not]
    unfold T.one
    simp only [bne]
    by_cases h1 : knd t.kind = true
    · by_cases h2 : (nmd t.kind == decide (t.name = ⟨#[]⟩)) = true
      · simp [f221, f221b, h0, h1, glob0, kindAt h1, h2]
      · by_cases h3 : 0 ≤ kdn t.kind
        · by_cases h4 : (t.kids.length : Int) = kdn t.kind
          · simp [f221, f221b, h0, h1, glob0, kindAt h1, h2, h3, h4, e320]
          · have h5 : ¬ kdn t.kind < 0 := by omega
            simp [f221, f221b, h0, h1, glob0, kindAt h1, h2, h3, h4, h5, e320]
        · have h5 : kdn t.kind < 0 := by omega
          simp [f221, f221b, h0, h1, glob0, kindAt h1, h2, h3, h5, e320]
    · simp [f221, f221b, h0, h1]
end
end Abs

namespace Abs
open Go

def T.dep : Nat → T → Nat
  | 0, _ => 0
  | 1, _ => 1
  | d + 2, t => (t.kids.foldl (fun n k => max n (T.dep (d + 1) k)) 0) + 1
def depL (d : Nat) (l : List T) : Nat := l.foldl (fun n k => max n (T.dep d k)) 0
theorem depL_snoc {d : Nat} {l : List T} {k : T} : depL d (l ++ [k]) = max (depL d l) (k.dep d) := by simp [depL]
theorem depL_take {d i : Nat} {l : List T} {k : T} (h : l[i]? = some k) : depL d (l.take (i + 1)) = max (depL d (l.take i)) (k.dep d) := by
  rw [List.take_add_one, h]; exact depL_snoc
theorem foldl_max_le {d b : Nat} {g : T → Nat} : ∀ {l : List T} {n : Nat}, n ≤ b → (∀ k ∈ l, g k ≤ b) → l.foldl (fun n k => max n (g k)) n ≤ b
  | [], n, hn, _ => hn
  | k :: l, n, hn, h => foldl_max_le (d := d) (l := l) (Nat.max_le.2 ⟨hn, h k (by simp)⟩) fun x hx => h x (by simp [hx])
theorem T.dep_le : ∀ {d : Nat} {t : T}, t.dep d ≤ d
  | 0, _ => Nat.le_refl _
  | 1, _ => Nat.le_refl _
  | d + 2, t => by
    rw [T.dep]
    have := @foldl_max_le d (d + 1) (T.dep (d + 1)) t.kids 0 (Nat.zero_le _) fun k _ => T.dep_le
    omega
theorem depL_le {d : Nat} {l : List T} : depL d l ≤ d := foldl_max_le (d := d) (Nat.zero_le _) fun _ _ => T.dep_le

section
/- EqualFunc -/
def eqF (g : T → T → Bool) : List T → List T → Bool
  | [], [] => true
  | a :: l, b :: m => g a b && eqF g l m
  | _, _ => false
theorem eqF_len {g : T → T → Bool} : ∀ {l m : List T}, eqF g l m = true → l.length = m.length
  | [], [], _ => rfl
  | a :: l, b :: m, h => by
    simp only [eqF, Bool.and_eq_true] at h
    simp [eqF_len h.2]
  | [], _ :: _, h => by cases h
  | _ :: _, [], h => by cases h
theorem eqF_same : ∀ {l m : List T}, eqF T.same l m = sameL l m
  | [], [] => rfl
  | [], _ :: _ => rfl
  | _ :: _, [] => rfl
  | a :: l, b :: m => by rw [eqF, sameL, eqF_same]
theorem eqF_drop {g : T → T → Bool} {l m : List T} {i : Nat} {t u : T} (ht : l[i]? = some t) (hu : m[i]? = some u) : eqF g (l.drop i) (m.drop i) = (g t u && eqF g (l.drop (i + 1)) (m.drop (i + 1))) := by
  obtain ⟨hi, e1⟩ := List.getElem?_eq_some_iff.1 ht
  obtain ⟨hi', e2⟩ := List.getElem?_eq_some_iff.1 hu
  rw [List.drop_eq_getElem_cons hi, List.drop_eq_getElem_cons hi', e1, e2]; rfl
theorem s224 {S : AS} {k : Nat} {l m : List T} {g : T → T → Bool} (hl : l.length ≤ 4611686018427387904)
    (hg : ∀ t ∈ l, ∀ u S', call k [.agg t.cells, .agg u.cells] S' = some (.sc (.bool (g t u)), S')) : call 224 [lstT l, lstT m, .fn k [] []] S = some (.sc (.bool (eqF g l m)), S) := by
  rw [call_keep a224 (by simp) rfl]
  simp only [f224]
  by_cases hlm : l.length = m.length
  · simp [f224b, hlm]
    refine loop_genR (α := Nat) (R := fun i r => r = some (.sc (.bool (eqF g (l.drop i) (m.drop i))), S)) (fun i e rg S' => i ≤ l.length ∧ S' = S ∧ NQ [6, 7, 8, 9, 18, 19, 20, 21, 22, 23, 24, 25, 26, 27, 28, 29, 30, 31] [8, 9] e ∧ e 1 = lstT m ∧ e 2 = .fn k [] [] ∧ e 15 = lstT l ∧ e 16 = .sc (.int .i64 (l.length : Nat)) ∧ e 17 = .sc (.int .i64 (i : Nat))) (fun i => l.length - i) (fun _ _ _ _ h => h.2.2.1) ?_ 0 _ _ _ ?_
    rotate_left
    · refine ⟨by omega, rfl, ?_, by simp, by simp, by simp, by simp [hlm], by simp⟩
      repeat (first | exact NQ_ini rfl | refine NQ_put ?_ (by simp))
    intro kk hkk i e rg S' ⟨hi, hS, hq, h1, h2, h15, h16, h17⟩ ih
    subst hS
    by_cases hc : i < l.length
    · obtain ⟨t, ht⟩ := get_of_lt hc
      obtain ⟨u, hu⟩ := get_of_lt (l := m) (i := i) (by omega)
      have w2 : IntKind.i64.wrap ((i : Int) + 1) = ((i + 1 : Nat) : Int) := w64 (by omega)
      have hcall := hg t (List.mem_of_getElem? ht) u
      cases hb : g t u with
      | false =>
        rw [hb] at hcall
        rw [eqF_drop ht hu, hb]
        simp [f224_l0, h1, h2, h15, h16, h17, hc, lstT_at ht, lstT_at hu, hcall, fgtR_apply]
        rw [hkk]; simp
      | true =>
        rw [hb] at hcall
        simp [f224_l0, h1, h2, h15, h16, h17, hc, lstT_at ht, lstT_at hu, hcall, w2]
        refine ih (i + 1) _ _ _ (by omega) (fun _ h => ?_) ?_
        · rw [h]; rw [eqF_drop ht hu, hb]; simp
        · refine ⟨by omega, rfl, ?_, by simp [h1], by simp [h2], by simp [h15], by simp [h16], by simp⟩
          repeat (first | exact NQ_fgt hq | refine NQ_put ?_ (by simp))
    · have hi' : i = l.length := by omega
      subst hi'
      simp [f224_l0, h1, h2, h15, h16, h17, eqF]
      rw [hkk, hlm]; simp [eqF]
  · have h2 : ¬ ((l.length : Int) = m.length) := by omega
    have h3 : eqF g l m = false := by
      rw [Bool.eq_false_iff]; exact fun h => hlm (eqF_len h)
    simp [f224b, h2, h3]
theorem same118 : ∀ (n : Nat) (a b : T) (S : AS), sizeOf a < n → a.fits → call 118 [.agg a.cells, .agg b.cells] S = some (.sc (.bool (a.same b)), S)
  | 0, _, _, _, h, _ => by omega
  | n + 1, a, b, S, hn, hfit => by
    obtain ⟨hlen, hkids⟩ := T.fits_kids hfit
    rw [call_calm a118 rfl (by simp) rfl]
    have e224 := fun S => @s224 S 118 a.kids b.kids T.same hlen (fun t ht u S' => same118 n t u S' (by have := T.kid_lt ht; omega) (hkids t ht))
    rw [eqF_same] at e224
    rw [T.same_def]
    by_cases h1 : a.kind = b.kind
    · by_cases h2 : a.name = b.name
      · simp [f118, f118b, h1, h2, e224]
      · simp [f118, f118b, h1, h2]
    · simp [f118, f118b, h1]
@[simp] theorem s118 {a b : T} {S : AS} (h : a.fits) : call 118 [.agg a.cells, .agg b.cells] S = some (.sc (.bool (a.same b)), S) := same118 _ a b S (Nat.lt_succ_self _) h
end
end Abs

namespace Abs
open Go

mutual
def T.dp : T → Nat
  | .mk _ _ l => dpL l + 1
def dpL : List T → Nat
  | [] => 0
  | t :: l => max t.dp (dpL l)
end
mutual
def T.rshp : T → Bool
  | .mk k n l => (T.mk k n l).one && rshpL l
def rshpL : List T → Bool
  | [] => true
  | t :: l => t.rshp && rshpL l
end
theorem T.dp_def : ∀ t : T, t.dp = dpL t.kids + 1
  | .mk _ _ _ => by rw [T.dp]; rfl
theorem T.rshp_def : ∀ t : T, t.rshp = (t.one && rshpL t.kids)
  | .mk _ _ _ => by rw [T.rshp]; rfl
theorem rshpL_iff : ∀ {l : List T}, rshpL l = true ↔ ∀ t ∈ l, t.rshp = true
  | [] => by simp [rshpL]
  | t :: l => by simp [rshpL, rshpL_iff (l := l)]
theorem rshpL_all : ∀ {l : List T}, rshpL l = l.all T.rshp
  | [] => rfl
  | t :: l => by rw [rshpL, List.all_cons, rshpL_all]
theorem dpL_mem : ∀ {l : List T}, ∀ t ∈ l, t.dp ≤ dpL l
  | [], t, h => by cases h
  | a :: l, t, h => by
    rw [dpL]
    rcases List.mem_cons.1 h with rfl | h
    · exact Nat.le_max_left _ _
    · exact Nat.le_trans (dpL_mem t h) (Nat.le_max_right _ _)
theorem T.dp_kid {t u : T} (h : u ∈ t.kids) : u.dp + 1 ≤ t.dp := by
  rw [t.dp_def]; have := dpL_mem u h; omega
theorem T.dp_pos {t : T} : 1 ≤ t.dp := by rw [T.dp_def]; omega
theorem depL_fold {d : Nat} : ∀ {l : List T} {n : Nat}, (∀ k ∈ l, T.dep d k = min d k.dp) → n ≤ d → l.foldl (fun n k => max n (T.dep d k)) n = max n (min d (dpL l))
  | [], n, _, _ => by simp [dpL]
  | k :: l, n, h, hn => by
    rw [List.foldl_cons, depL_fold (fun x hx => h x (by simp [hx])) (by rw [h k (by simp)]; omega), h k (by simp), dpL]
    omega
theorem T.dep_eq : ∀ {d : Nat} {t : T}, t.dep d = min d t.dp
  | 0, t => by rw [T.dep]; omega
  | 1, t => by rw [T.dep]; have := t.dp_pos; omega
  | d + 2, t => by
    rw [T.dep, depL_fold (fun k _ => T.dep_eq) (Nat.zero_le _), t.dp_def]
    omega
theorem T.shp_eq : ∀ {d : Nat} {t : T}, t.shp d = (t.rshp && decide (t.dp ≤ d))
  | 0, t => by rw [T.shp]; have := t.dp_pos; simp; intro; omega
  | d + 1, t => by
    rw [T.shp, t.rshp_def, t.dp_def]
    have h : (t.kids.all fun k => k.shp d) = (rshpL t.kids && decide (dpL t.kids ≤ d)) := by
      generalize t.kids = l
      induction l with
      | nil => simp [rshpL, dpL]
      | cons k l ih =>
        rw [List.all_cons, ih, T.shp_eq, rshpL, dpL]
        cases k.rshp <;> cases rshpL l <;> simp
        by_cases h1 : k.dp ≤ d <;> by_cases h2 : dpL l ≤ d <;> simp [h1, h2] <;> omega
    show (t.one && t.kids.all fun k => k.shp d) = _
    rw [h]
    cases t.one <;> simp
theorem T.one_iff {t : T} : t.one = true ↔ knd t.kind = true ∧ (nmd t.kind = true ↔ t.name ≠ ⟨#[]⟩) ∧ (kdn t.kind < 0 ∨ (t.kids.length : Int) = kdn t.kind) := by
  unfold T.one
  cases knd t.kind <;> cases nmd t.kind <;> by_cases h : t.name = ⟨#[]⟩ <;> simp [h]

section
variable {S : AS}
end
end Abs

namespace Abs
open Go

def nameT (n : ByteArray) : ByteArray := if n = ⟨#[]⟩ then ⟨#[]⟩ else numB n.size ++ ⟨#[58]⟩ ++ n
def hdT (k : Int) (n : ByteArray) : ByteArray := ltr k ++ nameT n
mutual
def T.text : T → ByteArray
  | .mk k n l => if l.isEmpty && !(decide (k = 3)) then hdT k n else hdT k n ++ ⟨#[40]⟩ ++ joinT l ++ ⟨#[41]⟩
def joinT : List T → ByteArray
  | [] => ⟨#[]⟩
  | t :: l => t.text ++ commaT l
def commaT : List T → ByteArray
  | [] => ⟨#[]⟩
  | t :: l => ⟨#[44]⟩ ++ t.text ++ commaT l
end
theorem T.text_def : ∀ t : T, t.text = if t.kids.isEmpty && !(decide (t.kind = 3)) then hdT t.kind t.name else hdT t.kind t.name ++ ⟨#[40]⟩ ++ joinT t.kids ++ ⟨#[41]⟩
  | .mk _ _ _ => by rw [T.text]; rfl
theorem ba_nil {x : ByteArray} : x ++ ⟨#[]⟩ = x := by apply ba_data; simp [ByteArray.data_append]
theorem nil_ba {x : ByteArray} : (⟨#[]⟩ : ByteArray) ++ x = x := by apply ba_data; simp [ByteArray.data_append]
theorem commaT_app : ∀ {l m : List T}, commaT (l ++ m) = commaT l ++ commaT m
  | [], m => by simp only [commaT, List.nil_append, nil_ba]
  | t :: l, m => by simp only [commaT, List.cons_append, commaT_app, ba_assoc]
theorem joinT_snoc {l : List T} {k : T} : joinT (l ++ [k]) = if l.isEmpty then k.text else joinT l ++ ⟨#[44]⟩ ++ k.text := by
  cases l with
  | nil => simp only [List.nil_append, joinT, commaT, ba_nil]; rfl
  | cons t l => simp only [List.cons_append, joinT, commaT_app, commaT, ba_nil, ba_assoc, List.isEmpty_cons]; rfl
theorem joinT_take {l : List T} {i : Nat} {k : T} (h : l[i]? = some k) : joinT (l.take (i + 1)) = if i = 0 then k.text else joinT (l.take i) ++ ⟨#[44]⟩ ++ k.text := by
  rw [List.take_add_one, h, Option.toList_some, joinT_snoc]
  have hi := (List.getElem?_eq_some_iff.1 h).1
  by_cases h0 : i = 0
  · subst h0; simp
  · rw [if_neg h0, if_neg]
    rw [List.isEmpty_iff, List.take_eq_nil_iff]
    rintro (h | h)
    · exact h0 h
    · subst h; simp at hi
theorem joinB_text : ∀ {l : List T}, joinB (l.map T.text) ⟨#[44]⟩ = joinT l
  | [] => by unfold joinB; rfl
  | t :: l => by
    have tail : ∀ l : List T, (⟨(Lib.joinTail [44] (l.map (fun t => t.text.data.toList))).toArray⟩ : ByteArray) = commaT l := by
      intro l
      induction l with
      | nil => rfl
      | cons t l ih =>
        rw [commaT, ← ih]
        apply ba_data
        simp [Lib.joinTail, ByteArray.data_append]
    unfold joinB
    simp only [List.map_cons, List.map_map]
    rw [Lib.join_cons, joinT, ← tail l]
    apply ba_data
    simp only [ByteArray.data_append]
    simp
    rfl

/- sizes -/
theorem ltr_size {k : Int} : (ltr k).size = 1 := rfl
theorem numB20 {n : Nat} (h : n ≤ 9223372036854775807) : (numB n).size ≤ 20 := Nat.le_succ_of_le (numB_le 18 n (by omega))
theorem nameT_size {n : ByteArray} (h : n.size ≤ 9223372036854775807) : (nameT n).size ≤ 21 + n.size := by
  unfold nameT; split
  · exact Nat.zero_le _
  · have := numB20 h
    rw [ByteArray.size_append, ByteArray.size_append]
    have h1 : (⟨#[58]⟩ : ByteArray).size = 1 := rfl
    omega
theorem hdT_size {k : Int} {n : ByteArray} (h : n.size ≤ 9223372036854775807) : (hdT k n).size ≤ 22 + n.size := by
  unfold hdT
  have := nameT_size h
  rw [ByteArray.size_append, ltr_size]; omega
mutual
theorem T.text_size : ∀ {t : T}, t.bulk ≤ 9223372036854775807 → t.text.size + 1 ≤ 8 * t.bulk
  | .mk k n l, h => by
    rw [T.bulk] at h ⊢
    have h1 := @hdT_size k n (by omega)
    have h2 := @joinT_size l (by omega)
    have e1 : (⟨#[40]⟩ : ByteArray).size = 1 := rfl
    have e2 : (⟨#[41]⟩ : ByteArray).size = 1 := rfl
    rw [T.text]
    split
    · omega
    · simp only [ByteArray.size_append]; omega
theorem joinT_size : ∀ {l : List T}, bulkL l ≤ 9223372036854775807 → (joinT l).size ≤ 8 * bulkL l
  | [], _ => Nat.zero_le _
  | t :: l, h => by
    rw [bulkL] at h ⊢
    have h1 := @T.text_size t (by omega)
    have h2 := @commaT_size l (by omega)
    rw [joinT, ByteArray.size_append]; omega
theorem commaT_size : ∀ {l : List T}, bulkL l ≤ 9223372036854775807 → (commaT l).size ≤ 8 * bulkL l
  | [], _ => Nat.zero_le _
  | t :: l, h => by
    rw [bulkL] at h ⊢
    have h1 := @T.text_size t (by omega)
    have h2 := @commaT_size l (by omega)
    have e1 : (⟨#[44]⟩ : ByteArray).size = 1 := rfl
    rw [commaT, ByteArray.size_append, ByteArray.size_append]; omega
end
theorem T.bulk_kid {t u : T} (h : u ∈ t.kids) : u.bulk + 4 ≤ t.bulk := by
  obtain ⟨k, n, l⟩ := t
  have := bulkL_mem (l := l) u h
  rw [T.bulk]; omega
theorem T.bulk_name {t : T} : t.name.size + 4 ≤ t.bulk := by
  obtain ⟨k, n, l⟩ := t
  rw [T.bulk]; show n.size + 4 ≤ _; omega
theorem T.bulk_len {t : T} : t.kids.length + 4 ≤ t.bulk := by
  obtain ⟨k, n, l⟩ := t
  have := @bulkL_len l
  rw [T.bulk]; show l.length + 4 ≤ _; omega
theorem T.bulk_kids {t : T} : bulkL t.kids + 4 ≤ t.bulk := by
  obtain ⟨k, n, l⟩ := t
  rw [T.bulk]; show bulkL l + 4 ≤ _; omega
theorem T.fits_bulk {t : T} (h : t.bulk ≤ 1099511627776) : t.fits := T.fits_bd (r := 48 * 1099511627776) (by omega) (T.bd_bulk h)
theorem bulkL_app : ∀ {l m : List T}, bulkL (l ++ m) = bulkL l + bulkL m
  | [], m => by simp [bulkL]
  | t :: l, m => by rw [List.cons_append, bulkL, bulkL, bulkL_app]; omega
theorem bulkL_take {l : List T} {i : Nat} : bulkL (l.take i) ≤ bulkL l := by
  conv => rhs; rw [← List.take_append_drop i l, bulkL_app]
  omega

section
variable {S : AS}
theorem itoaB_nat {m : Nat} : itoaB (m : Int) = numB m := by
  unfold itoaB Lib.itoa numB
  rw [if_neg (by omega)]; rfl
theorem rowStr_sRow : ∀ {ws : List ByteArray}, rowStr (sRow ws) = some ws
  | [] => rfl
  | w :: ws => by
    have := @rowStr_sRow ws
    unfold sRow at this ⊢
    simp only [List.map_cons, rowStr, this, Option.map_some]
theorem c324 {v : AV} {sep : ByteArray} {ws : List ByteArray} (hr : v.isReg = false) (h : rowsOf 1 S v = some (sRow ws)) (hl : ws.length ≤ 140737488355328) (hj : (joinB ws sep).size ≤ 140737488355328) :
    call 324 [v, .sc (.string sep)] S = some (.sc (.string (joinB ws sep)), S) := by
  rw [call_ext a324 (by simp [hr])]
  have hj' : (Lib.join (ws.map (·.data.toList)) sep.data.toList).length ≤ 140737488355328 := by
    have : (joinB ws sep).size = (Lib.join (ws.map (·.data.toList)) sep.data.toList).length := by
      unfold joinB; show (List.toArray _).size = _; rw [List.size_toArray]
    omega
  simp only [joinG, h, Option.bind_some, rowStr_sRow, hl, hj', and_self, if_true]
theorem Own.rows0 {S0 S' : AS} {v : AV} {rs : List (List AV)} (h : Own S0 S' 1 v rs) : rowsOf 1 S' v = some rs := by
  rcases h.h with ⟨z, rfl, hz⟩ | ⟨id, rfl, hh, hid, hlt⟩
  · rcases hz with hz | rfl
    · subst hz; simp [rowsOf]
    · simp [rowsOf]
  · simp only [rowsOf, if_true]
    exact slice_of hh (Nat.zero_le _)

theorem loop227 {t : T} {h : ByteArray} {S S0 : AS} (hb : t.bulk ≤ 1099511627776) (hh : h.size ≤ 1099511627798)
    (ih : ∀ u ∈ t.kids, ∀ S, call 227 [.agg u.cells] S = some (.sc (.string u.text), S)) (hS0 : S0.ro ≤ S0.n) (e : Nat → AV) (rg : Nat → Option (List AV))
    (hq : NQ [6, 39, 40, 41, 42, 43, 44, 45, 46, 47] [6] e) (h3 : e 3 = .sc (.string h)) (h4 : e 4 = .lst 0 true []) (h36 : e 36 = lstT t.kids) (h37 : e 37 = .sc (.int .i64 (t.kids.length : Nat))) (h38 : e 38 = .i 0) (ks : List Kn)
    (hex : ∀ e rg S' v, e 3 = .sc (.string h) → e 4 = v → v.isReg = false → rowsOf 1 S' v = some (sRow (t.kids.map T.text)) → fin [.tmp 2] (unw AA (some (.exit 0, st 54 e rg S')) ks) = some (.sc (.string (h ++ ⟨#[40]⟩ ++ joinT t.kids ++ ⟨#[41]⟩)), S')) :
    calmR S (fin [.tmp 2] (exec AA (.loop [6, 39, 40, 41, 42, 43, 44, 45, 46, 47] [6] f227_l0) (st 54 e rg S0) ks)) = some (.sc (.string (h ++ ⟨#[40]⟩ ++ joinT t.kids ++ ⟨#[41]⟩)), S) := by
  have hlen := t.bulk_len
  refine loop_genR (α := Nat) (R := fun _ r => calmR S r = some (.sc (.string (h ++ ⟨#[40]⟩ ++ joinT t.kids ++ ⟨#[41]⟩)), S)) (fun i e rg S' => i ≤ t.kids.length ∧ NQ [6, 39, 40, 41, 42, 43, 44, 45, 46, 47] [6] e ∧ e 3 = .sc (.string h) ∧ e 36 = lstT t.kids ∧ e 37 = .sc (.int .i64 (t.kids.length : Nat)) ∧ e 38 = .sc (.int .i64 (i : Nat)) ∧ Own S0 S' 1 (e 4) (sRow ((t.kids.take i).map T.text))) (fun i => t.kids.length - i) (fun _ _ _ _ h => h.2.1) ?_ 0 _ _ _ ⟨by omega, hq, h3, h36, h37, h38, by rw [h4]; exact own_nil hS0⟩
  intro kk hkk i e rg S' ⟨hi, hq, h3, h36, h37, h38, hO⟩ ihl
  by_cases hc : i < t.kids.length
  · obtain ⟨k, hk⟩ := get_of_lt hc
    have w2 : IntKind.i64.wrap ((i : Int) + 1) = ((i + 1 : Nat) : Int) := w64 (by omega)
    have hil : (t.kids.take i).length = i := by rw [List.length_take]; omega
    obtain ⟨v', S'', ha, hO', q1, q2, q3⟩ := hO.push (n := i) (bytes := 16) (r := [.sc (.string k.text)]) (f := true) (d := some 46) (rg := upd (upd (fgtR [6] rg) 6 zT) 6 k.cells) (by rw [sRow_len, List.length_map, hil]) (by omega)
    have h4r := hO.reg
    have e227 := ih k (List.mem_of_getElem? hk)
    rw [← sRow_snoc] at hO'
    simp only [zT] at ha
    simp [-calmR_some, f227_l0, h3, h36, h37, h38, hc, lstT_at hk, e227, h4r, fillR]
    rw [ha]
    simp [-calmR_some, q1, w2, h3, h36, h37, h38]
    refine ihl (i + 1) _ _ _ (by omega) (fun _ h => h) ?_
    refine ⟨by omega, ?_, by simp [h3], by simp [h36], by simp [h37], by simp, ?_⟩
    · repeat (first | exact NQ_fgt hq | refine NQ_put ?_ (by simp [q1]))
    · rw [List.take_add_one, hk]; simpa using hO'
  · have hi' : i = t.kids.length := by omega
    subst hi'
    rw [List.take_length] at hO
    simp [-calmR_some, f227_l0, h37, h38]
    rw [hkk]
    simp [-calmR_some]
    rw [hex _ _ _ (e 4) (by simp [h3]) (by simp) hO.reg hO.rows0]
    simp
end

section
variable {S : AS}
set_option maxHeartbeats 2000000 in
theorem text227 : ∀ (n : Nat) (t : T) (S : AS), sizeOf t < n → t.bulk ≤ 1099511627776 → t.rshp = true → call 227 [.agg t.cells] S = some (.sc (.string t.text), S)
  | 0, _, _, h, _, _ => by omega
  | n + 1, t, S, hn, hb, hr => by
    have ih : ∀ u ∈ t.kids, ∀ S, call 227 [.agg u.cells] S = some (.sc (.string u.text), S) := fun u hu S => text227 n u S (by have := T.kid_lt hu; omega) (by have := T.bulk_kid hu; omega) (by
      rw [t.rshp_def, Bool.and_eq_true] at hr; exact rshpL_iff.1 hr.2 u hu)
    rw [call_calm a227 rfl (by simp) rfl]
    rw [t.rshp_def, Bool.and_eq_true] at hr
    obtain ⟨h1, h2, h3⟩ := T.one_iff.1 hr.1
    have hlen := t.bulk_len
    have hname := t.bulk_name
    have hts := T.text_size (t := t) (by omega)
    have hks := joinT_size (l := t.kids) (by have := t.bulk_kids; omega)
    have hbk := t.bulk_kids
    have hhd := @hdT_size t.kind t.name (by omega)
    have e40 : (⟨#[40]⟩ : ByteArray).size = 1 := rfl
    have e41 : (⟨#[41]⟩ : ByteArray).size = 1 := rfl
    have e58 : (⟨#[58]⟩ : ByteArray).size = 1 := rfl
    have hJ : (joinB (t.kids.map T.text) ⟨#[44]⟩).size ≤ 140737488355328 := by rw [joinB_text]; omega
    have fin227 : ∀ (h : ByteArray), h.size ≤ 1099511627798 → ∀ e rg S' v, e 3 = .sc (.string h) → e 4 = v → v.isReg = false → rowsOf 1 S' v = some (sRow (t.kids.map T.text)) → fin [.tmp 2] (exec AA (.seq (.ops [
        ⟨some 48, .pur .mov, [.t 3], none⟩,
        ⟨some 49, .pur (.bin .add), [.t 48, .k (.s ⟨#[40]⟩)], none⟩,
        ⟨some 50, .pur .mov, [.t 4], none⟩,
        ⟨some 51, .call 324, [.t 50, .k (.s ⟨#[44]⟩)], none⟩,
        ⟨some 52, .pur (.bin .add), [.t 49, .t 51], none⟩,
        ⟨some 53, .pur (.bin .add), [.t 52, .k (.s ⟨#[41]⟩)], none⟩,
        ⟨some 2, .pur .mov, [.t 53], none⟩]) .ret) (st 54 e rg S') []) = some (.sc (.string (h ++ ⟨#[40]⟩ ++ joinT t.kids ++ ⟨#[41]⟩)), S') := by
      intro h hh e rg S' v g3 g4 gr grow
      have j := c324 (S := S') (sep := ⟨#[44]⟩) gr grow (by rw [List.length_map]; omega) hJ
      rw [joinB_text] at j
      have p1 : pev (.bin .add) [.sc (.string h), .s ⟨#[40]⟩] = some (.sc (.string (h ++ ⟨#[40]⟩))) := pev_sadd (by omega)
      have p2 := pev_sadd (x := h ++ ⟨#[40]⟩) (y := joinT t.kids) (by rw [ByteArray.size_append]; omega)
      have p3 : pev (.bin .add) [.sc (.string (h ++ ⟨#[40]⟩ ++ joinT t.kids)), .s ⟨#[41]⟩] = some (.sc (.string (h ++ ⟨#[40]⟩ ++ joinT t.kids ++ ⟨#[41]⟩))) := pev_sadd (by rw [ByteArray.size_append, ByteArray.size_append]; omega)
      simp [g3, g4, gr, p1, p2, p3, j]
    have hemp : (t.kids.isEmpty && !(decide (t.kind = 3))) = (decide ((t.kids.length : Int) = 0) && !(decide (t.kind = 3))) := by
      congr 1; cases t.kids <;> simp <;> omega
    rw [T.text_def, hemp]
    have w58 : pev (.bin .add) [.sc (.string (numB t.name.size)), .s ⟨#[58]⟩] = some (.sc (.string (numB t.name.size ++ ⟨#[58]⟩))) := pev_sadd (by have := numB20 (n := t.name.size) (by omega); omega)
    have wn := pev_sadd (x := numB t.name.size ++ ⟨#[58]⟩) (y := t.name) (by have := numB20 (n := t.name.size) (by omega); rw [ByteArray.size_append]; omega)
    have wl := pev_sadd (x := ltr t.kind) (y := numB t.name.size ++ ⟨#[58]⟩ ++ t.name) (by have := numB20 (n := t.name.size) (by omega); rw [ByteArray.size_append, ByteArray.size_append, ltr_size]; omega)
    have e193 : ∀ S, call 193 [.sc (.int .i64 (t.name.size : Int))] S = some (.sc (.string (numB t.name.size)), S) := fun S => by rw [c193 (by unfold inI; omega), itoaB_nat]
    have kA := kindAt h1
    have hL1 : (ltr t.kind).size = 1 := rfl
    by_cases hn0 : t.name = ⟨#[]⟩
    · have hd : hdT t.kind t.name = ltr t.kind := by unfold hdT nameT; rw [if_pos hn0, ba_nil]
      rw [hd] at hhd ⊢
      generalize ltr t.kind = L at *
      by_cases hem : (t.kids.length : Int) = 0
      · by_cases hk3 : t.kind = 3
        · simp [-calmR_some, f227, f227b, glob0, kA, hn0, hem, eq_true hk3]
          refine loop227 (h := L) hb (by omega) ih (Nat.le_refl _) _ _ ?_ (by simp) (by simp) (by simp) (by simp [hem]) (by simp) _ ?_
          · repeat (first | exact NQ_ini rfl | refine NQ_put ?_ (by simp))
          · intro e rg S' v g3 g4 gr grow
            simpa [g4, gr] using fin227 _ (by omega) e rg S' v g3 g4 gr grow
        · simp [f227, f227b, glob0, kA, hn0, hem, hk3]
      · have hem' : ¬ t.kids = [] := fun h => hem (by rw [h]; rfl)
        simp [-calmR_some, f227, f227b, glob0, kA, hn0, hem, hem']
        refine loop227 (h := L) hb (by omega) ih (Nat.le_refl _) _ _ ?_ (by simp) (by simp) (by simp) (by simp [hem]) (by simp) _ ?_
        · repeat (first | exact NQ_ini rfl | refine NQ_put ?_ (by simp))
        · intro e rg S' v g3 g4 gr grow
          simpa [g4, gr] using fin227 _ (by omega) e rg S' v g3 g4 gr grow
    · have hd : hdT t.kind t.name = ltr t.kind ++ (numB t.name.size ++ ⟨#[58]⟩ ++ t.name) := by unfold hdT nameT; rw [if_neg hn0]
      rw [hd] at hhd ⊢
      generalize ltr t.kind = L at *
      generalize hH : L ++ (numB t.name.size ++ ⟨#[58]⟩ ++ t.name) = H at *
      by_cases hem : (t.kids.length : Int) = 0
      · by_cases hk3 : t.kind = 3
        · simp [-calmR_some, f227, f227b, glob0, kA, hn0, hem, eq_true hk3, e193, w58, wn, wl]
          refine loop227 (h := H) hb (by omega) ih (Nat.le_refl _) _ _ ?_ (by simp) (by simp) (by simp) (by simp [hem]) (by simp) _ ?_
          · repeat (first | exact NQ_ini rfl | refine NQ_put ?_ (by simp))
          · intro e rg S' v g3 g4 gr grow
            simpa [g4, gr] using fin227 _ (by omega) e rg S' v g3 g4 gr grow
        · simp [f227, f227b, glob0, kA, hn0, hem, hk3, e193, w58, wn, wl]
      · have hem' : ¬ t.kids = [] := fun h => hem (by rw [h]; rfl)
        simp [-calmR_some, f227, f227b, glob0, kA, hn0, hem, hem', e193, w58, wn, wl]
        refine loop227 (h := H) hb (by omega) ih (Nat.le_refl _) _ _ ?_ (by simp) (by simp) (by simp) (by simp [hem]) (by simp) _ ?_
        · repeat (first | exact NQ_ini rfl | refine NQ_put ?_ (by simp))
        · intro e rg S' v g3 g4 gr grow
          simpa [g4, gr] using fin227 _ (by omega) e rg S' v g3 g4 gr grow
end
end Abs

namespace Abs
open Go

def lettersV : List (List AV) := [[.s ⟨#[100]⟩], [.s ⟨#[97]⟩], [.s ⟨#[112]⟩], [.s ⟨#[101]⟩], [.s ⟨#[109]⟩], [.s ⟨#[104]⟩], [.s ⟨#[107]⟩], [.s ⟨#[117]⟩], [.s ⟨#[115]⟩], [.s ⟨#[120]⟩]]
theorem letAt {k : Int} (h : knd k = true) : pev (.iaddr 1) [.lst 1 true lettersV, .sc (.int .i64 (IntKind.i64.wrap (k - 1)))] = some (.iptr [.sc (.string (ltr k))]) := by
  rcases knd_cases h with rfl | rfl | rfl | rfl | rfl | rfl | rfl | rfl | rfl | rfl <;> rfl
section
variable {S : AS}
theorem s227 {t : T} (h : t.bulk ≤ 1099511627776) (hr : t.rshp = true) : call 227 [.agg t.cells] S = some (.sc (.string t.text), S) := text227 _ t S (Nat.lt_succ_self _) h hr
end
end Abs

namespace Abs
open Go

def shareOk (k : Int) (l : List T) : Bool := if k = 9 then (match l with | a :: b :: _ => !(sLt b.text a.text) | _ => true) else true
mutual
def T.ord : T → Bool
  | .mk k _ l => shareOk k l && ordL l
def ordL : List T → Bool
  | [] => true
  | t :: l => t.ord && ordL l
end
mutual
def T.ofit : T → Prop
  | .mk k _ l => (k = 9 → ∀ u ∈ l, u.bulk ≤ 1099511627776) ∧ ofitL l
def ofitL : List T → Prop
  | [] => True
  | t :: l => t.ofit ∧ ofitL l
end
theorem T.ord_def : ∀ t : T, t.ord = (shareOk t.kind t.kids && ordL t.kids)
  | .mk _ _ _ => by rw [T.ord]; rfl
theorem ordL_all : ∀ {l : List T}, ordL l = l.all T.ord
  | [] => rfl
  | t :: l => by rw [ordL, List.all_cons, ordL_all]
theorem ofitL_iff : ∀ {l : List T}, ofitL l ↔ ∀ t ∈ l, t.ofit
  | [] => by simp [ofitL]
  | t :: l => by simp [ofitL, ofitL_iff (l := l)]
theorem T.ofit_def : ∀ t : T, t.ofit ↔ (t.kind = 9 → ∀ u ∈ t.kids, u.bulk ≤ 1099511627776) ∧ ∀ u ∈ t.kids, u.ofit
  | .mk _ _ _ => by rw [T.ofit, ofitL_iff]; rfl
mutual
theorem T.ofit_bulk : ∀ {t : T}, t.bulk ≤ 1099511627776 → t.ofit
  | .mk k n l, h => by
    rw [T.bulk] at h
    exact ⟨fun _ u hu => by have := bulkL_mem (l := l) u hu; omega, ofitL_bulk (by omega)⟩
theorem ofitL_bulk : ∀ {l : List T}, bulkL l ≤ 1099511627776 → ofitL l
  | [], _ => trivial
  | t :: l, h => by
    rw [bulkL] at h
    exact ⟨T.ofit_bulk (by omega), ofitL_bulk (by omega)⟩
end
def T.right (t : T) : Bool := t.rshp && decide (t.dp ≤ 60) && t.ord
theorem T.right_iff {t : T} : t.right = true ↔ t.rshp = true ∧ t.dp ≤ 60 ∧ t.ord = true := by
  unfold T.right; simp only [Bool.and_eq_true, decide_eq_true_eq, and_assoc]
theorem T.rshp_kid {t u : T} (h : t.rshp = true) (hu : u ∈ t.kids) : u.rshp = true := by
  rw [t.rshp_def, Bool.and_eq_true] at h; exact rshpL_iff.1 h.2 u hu
theorem T.share_kids {t : T} (h : t.rshp = true) (h9 : t.kind = 9) : ∃ a b, t.kids = [a, b] := by
  rw [t.rshp_def, Bool.and_eq_true] at h
  obtain ⟨_, _, h3⟩ := T.one_iff.1 h.1
  have hk : kdn t.kind = 2 := by rw [h9]; rfl
  have : t.kids.length = 2 := by omega
  match hl : t.kids, this with
  | [a, b], _ => exact ⟨a, b, rfl⟩

section
variable {S : AS}
theorem s322_of {t : T} (h : ∀ S, call 222 [.agg t.cells] S = some (.sc (.bool t.ord), S)) : call 322 [.agg t.cells] S = some (.sc (.bool (!t.ord)), S) := by
  rw [call_calm a322 rfl (by simp) rfl]
  simp [f322, f322b, h]
theorem ord222 : ∀ (n : Nat) (t : T) (S : AS), sizeOf t < n → t.fits → t.ofit → t.rshp = true → call 222 [.agg t.cells] S = some (.sc (.bool t.ord), S)
  | 0, _, _, h, _, _, _ => by omega
  | n + 1, t, S, hn, hf, ho, hr => by
    obtain ⟨hl, hk⟩ := T.fits_kids hf
    obtain ⟨o1, o2⟩ := t.ofit_def.1 ho
    rw [call_calm a222 rfl (by simp) rfl]
    have e320 := fun S' => @s320 S' (.fn 322 [] []) 322 [] t.kids (fun t => !t.ord) rfl hl (fun u hu S'' => s322_of (fun S => ord222 n u S (by have := T.kid_lt hu; omega) (hk u hu) (o2 u hu) (T.rshp_kid hr hu)))
    rw [t.ord_def, ordL_all, ← any_not]
    by_cases h9 : t.kind = 9
    · obtain ⟨a, b, hab⟩ := T.share_kids hr h9
      have ha : a ∈ t.kids := by rw [hab]; simp
      have hb : b ∈ t.kids := by rw [hab]; simp
      have ta := fun S => @s227 S a (o1 h9 a ha) (T.rshp_kid hr ha)
      have tb := fun S => @s227 S b (o1 h9 b hb) (T.rshp_kid hr hb)
      have l0 : pev (.iaddr 3) [lstT t.kids, .i 0] = some (.iptr a.cells) := lstT_at (i := 0) (by rw [hab]; rfl)
      have l1 : pev (.iaddr 3) [lstT t.kids, .i 1] = some (.iptr b.cells) := lstT_at (i := 1) (by rw [hab]; rfl)
      have hsh : shareOk t.kind t.kids = !(sLt b.text a.text) := by unfold shareOk; rw [if_pos h9, hab]
      rw [hsh]
      cases hs : sLt b.text a.text with
      | true => simp [f222, f222b, eq_true h9, l0, l1, ta, tb, hs]
      | false => simp [f222, f222b, eq_true h9, l0, l1, ta, tb, hs, e320]
    · have hsh : shareOk t.kind t.kids = true := by unfold shareOk; rw [if_neg h9]
      simp [f222, f222b, h9, hsh, e320]
theorem s222 {t : T} (hf : t.fits) (ho : t.ofit) (hr : t.rshp = true) : call 222 [.agg t.cells] S = some (.sc (.bool t.ord), S) := ord222 _ t S (Nat.lt_succ_self _) hf ho hr
theorem e221 {t : T} {S : AS} (hf : t.fits) : call 221 [.agg t.cells, .i 60] S = some (.sc (.bool (t.rshp && decide (t.dp ≤ 60))), S) := by
  rw [← T.shp_eq]; exact @s221 60 t S (by omega) hf
theorem s116 {t : T} (hf : t.fits) (ho : t.ofit) : call 116 [.agg t.cells] S = some (.sc (.bool t.right), S) := by
  rw [call_calm a116 rfl (by simp) rfl]
  have e1 := fun S => @e221 t S hf
  unfold T.right
  cases hr : (t.rshp && decide (t.dp ≤ 60)) with
  | false => rw [hr] at e1; simp [f116, f116b, e1]
  | true =>
    rw [hr] at e1
    have e2 := fun S => @s222 S t hf ho (by rw [Bool.and_eq_true] at hr; exact hr.1)
    simp [f116, f116b, e1, e2]
/- Text, the program's -/
def T.txt (t : T) : ByteArray := if t.rshp && decide (t.dp ≤ 60) then t.text else ⟨#[]⟩
theorem s121 {t : T} (hb : t.bulk ≤ 1099511627776) : call 121 [.agg t.cells] S = some (.sc (.string t.txt), S) := by
  rw [call_calm a121 rfl (by simp) rfl]
  have e1 := fun S => @e221 t S (T.fits_bulk hb)
  unfold T.txt
  cases hr : (t.rshp && decide (t.dp ≤ 60)) with
  | false => rw [hr] at e1; simp [f121, f121b, e1]
  | true =>
    rw [hr] at e1
    have e2 := fun S => @s227 S t hb (by rw [Bool.and_eq_true] at hr; exact hr.1)
    simp [f121, f121b, e1, e2]
theorem s229 {a b : T} (ha : a.bulk ≤ 1099511627776) (hb : b.bulk ≤ 1099511627776) : call 229 [.agg a.cells, .agg b.cells] S = some (.sc (.bool (sLt a.txt b.txt)), S) := by
  rw [call_calm a229 rfl (by simp) rfl]
  have e1 := fun S => @s121 S a ha
  have e2 := fun S => @s121 S b hb
  simp [f229, f229b, e1, e2]
def tShare (a b : T) : T := if sLt b.txt a.txt then .mk 9 ⟨#[]⟩ [b, a] else .mk 9 ⟨#[]⟩ [a, b]
theorem s127 {a b : T} (ha : a.bulk ≤ 1099511627776) (hb : b.bulk ≤ 1099511627776) : call 127 [.agg a.cells, .agg b.cells] S = some (.agg (tShare a b).cells, S) := by
  rw [call_calm a127 rfl (by simp) rfl]
  have e1 := fun S => @s229 S b a hb ha
  unfold tShare
  cases hs : sLt b.txt a.txt with
  | true => rw [hs] at e1; simp [f127, f127b, e1, T.cells, rowsT]
  | false => rw [hs] at e1; simp [f127, f127b, e1, T.cells, rowsT]

/- the reference's -/
theorem T.text_ne {t : T} : t.text ≠ ⟨#[]⟩ := by
  intro h
  have := congrArg ByteArray.size h
  rw [T.text_def] at this
  have h1 : (hdT t.kind t.name).size = 1 + (nameT t.name).size := by unfold hdT; rw [ByteArray.size_append, ltr_size]
  have h0 : (⟨#[]⟩ : ByteArray).size = 0 := rfl
  split at this
  · omega
  · simp only [ByteArray.size_append] at this; omega
end
end Abs

namespace Abs
open Go

theorem sle_eq {x y : ByteArray} : (sLt x y || decide (x = y)) = !(sLt y x) := by
  rw [sLt_iff, sLt_iff, Bool.eq_iff_iff]
  simp only [Bool.or_eq_true, decide_eq_true_eq, Bool.not_eq_true', decide_eq_false_iff_not]
  have hd : x = y ↔ x.data.toList = y.data.toList := ⟨fun h => by rw [h], ba_data⟩
  rw [hd, List.not_lt, List.le_iff_lt_or_eq]

section
variable {S : AS}
/- what may be a key, or a secret -/
def T.fit (t : T) : Bool := t.right && decide (t.dp ≤ 57)
theorem dep57 {t : T} : (((t.dep 61 : Nat) : Int) ≤ 57) ↔ t.dp ≤ 57 := by rw [T.dep_eq]; omega
/- a name behind a letter -/
def restOf (t : T) (l : ByteArray) : Option ByteArray := if t.kind = 1 then cutB t.name l else none
end
end Abs

namespace Abs
open Go

theorem wrap_in (x : Int) : inI (IntKind.i64.wrap x) := by
  rw [Go.IntWalk.i64_left]
  exact i64_in (RowKit.wrap64_wf x)

theorem digB_neg {m : Nat} (h : m < 10) : pev .bytesStr [AV.lst 1 true [[.sc (.int .u8 (IntKind.u8.wrap (IntKind.i64.wrap (48 - (-(m : Int))))))]]] = some (.sc (.string (digB m))) := by
  rw [show (48 : Int) - -(m : Int) = 48 + (m : Int) by omega, wrap_u8 h]; exact pev_dig
theorem itoaB_neg {m : Nat} (h : 0 < m) : itoaB (-(m : Int)) = ⟨#[45]⟩ ++ numB m := by
  unfold itoaB Lib.itoa numB
  rw [if_pos (by omega), show (-(m : Int)).natAbs = m by omega]
  exact (ba_app (x := [45]) (y := Lib.decDigits m)).symm
section
variable {S : AS}
end
end Abs

namespace Abs
open Go

def stepA (n : Int) (c : UInt8) : Int := IntKind.i64.wrap (IntKind.i64.wrap (n * 10) - IntKind.i64.wrap (IntKind.u8.wrap ((c.toNat : Int) - 48)))
def accA : Int → List UInt8 → Int
  | n, [] => n
  | n, c :: l => accA (stepA n c) l
theorem u8w {n : Int} (h : 0 ≤ n ∧ n ≤ 255) : IntKind.u8.wrap n = n := by
  simp [IntKind.wrap, IntKind.bits, IntKind.signed]; omega
theorem stepA_dig {a d b : Nat} {c : UInt8} (hc : c.toNat = 48 + d) (hd : d ≤ 9) (hb : b ≤ 9223372036854775808) (h : a * 10 + d ≤ b) : stepA (-(a : Int)) c = -((a * 10 + d : Nat) : Int) := by
  have e1 : IntKind.u8.wrap ((c.toNat : Int) - 48) = (d : Int) := by rw [u8w (by omega)]; omega
  have e2 : IntKind.i64.wrap (d : Int) = (d : Int) := w64 (by omega)
  have e3 : IntKind.i64.wrap (-(a : Int) * 10) = -(a : Int) * 10 := w64 (by omega)
  have e4 : IntKind.i64.wrap (-(a : Int) * 10 - (d : Int)) = -(a : Int) * 10 - (d : Int) := w64 (by omega)
  unfold stepA
  rw [e1, e2, e3, e4]
  omega
theorem accA_cons {n : Int} {c : UInt8} {l : List UInt8} : accA n (c :: l) = accA (stepA n c) l := rfl
theorem foldD_cons {a : Nat} {c : UInt8} {l : List UInt8} : foldD a (c :: l) = foldD (a * 10 + (c.toNat - 48)) l := by conv => lhs; unfold foldD
theorem accA_digB {b : Nat} (hb : b ≤ 9223372036854775808) (l : List UInt8) : ∀ (a : Nat), (∀ c ∈ l, isDig c) → foldD a l ≤ b → accA (-(a : Int)) l = -((foldD a l : Nat) : Int) := by
  induction l with
  | nil => intro a _ _; rfl
  | cons c l ih =>
    intro a hd h
    rw [foldD_cons] at h ⊢
    have hge := @foldD_ge l (a * 10 + (c.toNat - 48))
    have hc := hd c (by simp)
    unfold isDig at hc
    rw [accA_cons, stepA_dig (d := c.toNat - 48) (by omega) (by omega) hb (by omega)]
    exact ih _ (fun x hx => hd x (by simp [hx])) h
theorem accA_dig {l : List UInt8} {a : Nat} (hd : ∀ c ∈ l, isDig c) (h : foldD a l ≤ 9223372036854775808) : accA (-(a : Int)) l = -((foldD a l : Nat) : Int) := accA_digB (b := 9223372036854775808) (by omega) l a hd h
theorem accA_in : ∀ {l : List UInt8} {n : Int}, inI n → inI (accA n l)
  | [], _, h => h
  | _ :: l, _, _ => accA_in (l := l) (wrap_in _)

/- what the loop comes to -/
def minusS (s : ByteArray) : Bool := decide (1 < s.size) && decide (s.data.toList[0]? = some 45)
def numA (s : ByteArray) : Int := if minusS s then accA 0 (s.data.toList.drop 1) else IntKind.i64.wrap (-(accA 0 s.data.toList))
theorem inI0 : inI 0 := by unfold inI; omega
theorem numA_in {s : ByteArray} : inI (numA s) := by
  unfold numA; split
  · exact accA_in inI0
  · exact wrap_in _
theorem numA_itoa {m : Int} (h : inI m) : numA (itoaB m) = m := by
  unfold numA minusS
  have hs : (itoaB m).size = (itoaB m).data.toList.length := by simp
  rw [hs, itoaB_list]
  unfold inI at h
  unfold Lib.itoa
  by_cases hneg : m < 0
  · rw [if_pos hneg]
    obtain ⟨i1, i2, i3⟩ := decDigits_dig m.natAbs
    have h0 := @accA_dig (Lib.decDigits m.natAbs) 0 i1 (by rw [i2]; omega)
    have hl : 0 < (Lib.decDigits m.natAbs).length := List.length_pos_iff.2 i3
    rw [i2] at h0
    have h0 : accA 0 (Lib.decDigits m.natAbs) = -(m.natAbs : Int) := h0
    simp [hl, h0]; omega
  · rw [if_neg hneg]
    obtain ⟨i1, i2, i3⟩ := decDigits_dig m.toNat
    have h0 := @accA_dig (Lib.decDigits m.toNat) 0 i1 (by rw [i2]; omega)
    rw [i2] at h0
    have h0 : accA 0 (Lib.decDigits m.toNat) = -(m.toNat : Int) := h0
    have e3 : ¬ (Lib.decDigits m.toNat)[0]? = some 45 := by
      intro h
      have := i1 45 (List.mem_of_getElem? h)
      exact absurd this (by decide)
    rw [h0]
    simp only [e3, decide_false, Bool.and_false, Bool.false_eq_true, if_false]
    rw [w64 (by omega)]; omega

section
variable {S : AS}
end
end Abs
