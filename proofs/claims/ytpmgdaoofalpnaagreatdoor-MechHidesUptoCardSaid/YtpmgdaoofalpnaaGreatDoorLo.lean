/- Analyze, at the machine. -/
import Derived.Test.YtpmgdaoofalpnaaGreatDoorLk
import Derived.Test.YtpmgdaoofalpnaaGreatDoorSm
set_option linter.unusedVariables false
set_option linter.unusedSimpArgs false
set_option linter.unusedSectionVars false
namespace Abs
open Go

theorem calm_arrT {S S' : AS} {id : Nat} {l : List T} (hid : S.n ≤ id) (hh : S'.heap id = some (.rows 3 (l.map T.cells))) : calmR S (some (.arr id 3 0 l.length none, S')) = some (lstT l, S) := by
  have e2 : S'.frzTo S.n 2 (.arr id 3 0 l.length none) = some (lstT l) := by
    show ((S'.slice S.n id 3 0 l.length).bind fun r => mapO (mapO (S'.frzTo S.n 1)) r).map (lstN 3) = _
    have e3 : S'.slice S.n id 3 0 l.length = some (l.map T.cells) := by
      unfold AS.slice
      rw [if_pos hid, hh]
      simp [List.take_of_length_le]
    rw [e3]
    exact congrArg (Option.map (lstN 3)) mapO_frz
  show (S'.frzTo S.n 2 (.arr id 3 0 l.length none)).bind _ = _
  rw [e2]
  simp [lst_pure]
section
variable {S : AS}
theorem s255 {x0 : AV} {frame U : List T} (hts : IsTs S x0 frame) (hU : UOk U) (hf : ∀ t ∈ frame, t ∈ U) (hfl : frame.length ≤ 1000) : ∃ L, KnowL frame U L ∧ L.Nodup ∧ call 255 [x0] S = some (lstT L, S) := by
  rw [call_calm' a255 (args' := [x0.nrm]) (by simp [hts.reg]) (by simp) rfl]
  obtain ⟨S', M, v, kid, i, j, L, e230, hK, hp, hcl, hlo⟩ := @c230x ⟨S.heap, S.n, S.n⟩ x0.nrm frame U hts.nrm.ro hts.nn hU hf hfl (Nat.le_refl _)
  have hr := hts.nrm.reg
  refine ⟨L, ⟨hp.has, hp.sub, hp.least, hcl⟩, hp.nodup, ?_⟩
  have hld : ∀ d rg, opev (.ld none 1 false) d rg S' [.ptr kid 0 0] = some (v, none, S') := fun d rg => by
    rw [opev_ld_ptr hK.hk]; simp [getCells]
  have hvr := hK.reg
  simp [-calmR_some, f255, f255b, e230, hr, hld, hvr]
  rcases hK.hv with ⟨rfl, rfl⟩ | ⟨id, rfl, h1, _⟩
  · simp; rfl
  · have : S.n ≤ id := by
      rcases Nat.lt_or_ge id S.n with h | h
      · exact absurd (.inr (.inr (.inr ⟨_, _, _, _, rfl⟩))) (hlo id h)
      · exact h
    exact calm_arrT this h1
end
end Abs

namespace Abs
open Go

structure VC where
  k1 : Nat
  i1 : Nat
  j1 : Nat
  v1 : AV
  L1 : List T
  k2 : Nat
  i2 : Nat
  j2 : Nat
  v2 : AV
  L2 : List T
  m : Nat
  TH : List T
structure Vw (c : VC) (S : AS) : Prop where
  ex : ∃ M1 M2, KN S c.k1 c.i1 c.j1 c.L1 M1 c.v1 ∧ KN S c.k2 c.i2 c.j2 c.L2 M2 c.v2
  ap : ∀ x, KOwn c.k1 c.i1 c.j1 c.v1 x → ¬ KOwn c.k2 c.i2 c.j2 c.v2 x
  hm : S.heap c.m = some (.map (entI c.TH))
  m1 : c.m ≠ c.j1
  m2 : c.m ≠ c.j2
  lm : c.m < S.n
  th : ∀ u ∈ c.TH, u.rshp = true
def Rl (c : VC) (S S' : AS) : Prop := S'.ro = S.ro ∧ S.n ≤ S'.n ∧ ∀ x, x < S.n → x ≠ c.j1 → x ≠ c.j2 → S'.heap x = S.heap x
def VQ (c : VC) (S S' : AS) : Prop := Vw c S' ∧ Rl c S S'
theorem KN.own_lt {S : AS} {kid i j : Nat} {L : List T} {v : AV} {M : List (ByteArray × Bool)} (h : KN S kid i j L M v) {x : Nat} (hx : KOwn kid i j v x) : x < S.n := by
  rcases hx with rfl | rfl | rfl | ⟨a, b, c, d, e⟩
  · exact h.lk
  · exact h.li
  · exact h.lj
  · rcases h.hv with ⟨_, e'⟩ | ⟨id, e', _, _, hl, _⟩
    · rw [e'] at e; cases e
    · rw [e'] at e; cases e; exact hl
section
variable {c : VC} {S : AS}
theorem Rl.refl : Rl c S S := ⟨rfl, Nat.le_refl _, fun _ _ _ _ => rfl⟩
theorem Rl.trans {S' S'' : AS} (h : Rl c S S') (h' : Rl c S' S'') : Rl c S S'' := ⟨h'.1.trans h.1, Nat.le_trans h.2.1 h'.2.1, fun x hx h1 h2 => (h'.2.2 x (Nat.lt_of_lt_of_le hx h.2.1) h1 h2).trans (h.2.2 x hx h1 h2)⟩
theorem VQ.refl (h : Vw c S) : VQ c S S := ⟨h, Rl.refl⟩
theorem VQ.trans {S' S'' : AS} (h : VQ c S S') (h' : VQ c S' S'') : VQ c S S'' := ⟨h'.1, h.2.trans h'.2⟩
/- something new -/
theorem Vw.alloc (h : Vw c S) {S' : AS} (hr : S'.ro = S.ro) (hn : S.n ≤ S'.n) (hh : ∀ x, x < S.n → S'.heap x = S.heap x) : VQ c S S' := by
  obtain ⟨M1, M2, K1, K2⟩ := h.ex
  exact ⟨⟨⟨M1, M2, K1.keep hr hn fun x hx _ => hh x hx, K2.keep hr hn fun x hx _ => hh x hx⟩, h.ap, (hh _ h.lm).trans h.hm, h.m1, h.m2, Nat.lt_of_lt_of_le h.lm hn, h.th⟩, hr, hn, fun x hx _ _ => hh x hx⟩
theorem Vw.mk1 (h : Vw c S) {t : T} (ht : t.tidy) : ∃ S', VQ c S S' ∧ call 231 [.ptr c.k1 0 0, .agg t.cells] S = some (.sc (.bool (mkP c.L1 t)), S') := by
  obtain ⟨M1, M2, K1, K2⟩ := h.ex
  obtain ⟨M', hM', hc⟩ := s231 K1.ks ht K1.ok
  rw [K1.st] at hc
  have hne : ∀ x, KOwn c.k2 c.i2 c.j2 c.v2 x → x ≠ c.j1 := fun x hx e => h.ap x (.inr (.inr (.inl e))) hx
  refine ⟨_, ⟨⟨⟨M', M2, K1.made hM', K2.keep rfl (Nat.le_refl _) fun x _ hx => st_heap (hne x hx)⟩, h.ap, (st_heap h.m1).trans h.hm, h.m1, h.m2, h.lm, h.th⟩, rfl, Nat.le_refl _, fun x _ h1 _ => st_heap h1⟩, hc⟩
theorem Vw.mk2 (h : Vw c S) {t : T} (ht : t.tidy) : ∃ S', VQ c S S' ∧ call 231 [.ptr c.k2 0 0, .agg t.cells] S = some (.sc (.bool (mkP c.L2 t)), S') := by
  obtain ⟨M1, M2, K1, K2⟩ := h.ex
  obtain ⟨M', hM', hc⟩ := s231 K2.ks ht K2.ok
  rw [K2.st] at hc
  have hne : ∀ x, KOwn c.k1 c.i1 c.j1 c.v1 x → x ≠ c.j2 := fun x hx e => h.ap x hx (.inr (.inr (.inl e)))
  refine ⟨St S c.j2 M', ⟨⟨⟨M1, M', K1.keep rfl (Nat.le_refl _) fun x _ hx => st_heap (hne x hx), K2.made hM'⟩, h.ap, (st_heap h.m2).trans h.hm, h.m1, h.m2, h.lm, h.th⟩, rfl, Nat.le_refl _, fun x _ _ h2 => st_heap h2⟩, hc⟩
/- is it known there? -/
def MkF (c : VC) (kp : Nat) (L : List T) : Prop := ∀ S t, Vw c S → t.tidy → ∃ S', VQ c S S' ∧ call 231 [.ptr kp 0 0, .agg t.cells] S = some (.sc (.bool (mkP L t)), S')
theorem mkF1 : MkF c c.k1 c.L1 := fun _ _ h ht => h.mk1 ht
theorem mkF2 : MkF c c.k2 c.L2 := fun _ _ h ht => h.mk2 ht
theorem c424 {kp : Nat} {L : List T} (hk : MkF c kp L) (h : Vw c S) {t : T} (ht : t.tidy) : ∃ S', VQ c S S' ∧ call 424 [.agg t.cells, .iptr [.ptr kp 0 0]] S = some (.sc (.bool (!mkP L t)), S') := by
  rw [call_keep a424 (by simp) rfl]
  obtain ⟨S', hq, hc⟩ := hk S t h ht
  refine ⟨S', hq, ?_⟩
  simp [f424, f424b, hc]
theorem ix408 {l : List T} {z : Nat} {f : Bool} (hz : l ≠ [] → z = 3) (hl : l.length ≤ 4611686018427387904) {k : Nat} {cap : List AV} {g : T → Bool} (hS : Vw c S)
    (hg : ∀ t ∈ l, ∀ S', VQ c S S' → ∃ S'', VQ c S S'' ∧ call k (.agg t.cells :: cap) S' = some (.sc (.bool (g t)), S'')) :
    ∃ n S', VQ c S S' ∧ decide (0 ≤ n) = l.any g ∧ call 408 [.lst z f (l.map T.cells), .fn k [] cap] S = some (.sc (.int .i64 n), S') := by
  rw [call_keep a408 (by simp) rfl]
  simp only [f408]
  simp [f408b]
  have h0 : l.any g = (l.drop 0).any g := rfl
  rw [h0]
  refine loop_gen (α := Nat) (R := fun q r => ∃ n S', VQ c S S' ∧ decide (0 ≤ n) = (l.drop q).any g ∧ r = some (.sc (.int .i64 n), S')) (fun q e rg S' => q ≤ l.length ∧ VQ c S S' ∧ e 0 = .lst z f (l.map T.cells) ∧ e 1 = .fn k [] cap ∧ e 7 = .sc (.int .i64 (l.length : Nat)) ∧ e 8 = .sc (.int .i64 (q : Nat))) (fun q => l.length - q) ?_ 0 _ _ _ ?_
  rotate_left
  · exact ⟨by omega, VQ.refl hS, by simp, by simp, by simp, by simp⟩
  intro kk hkk q e rg S' ⟨hq, hQ, g0, g1, g7, g8⟩ ih
  by_cases hc : q < l.length
  · obtain ⟨t, ht⟩ := get_of_lt hc
    have w2 : IntKind.i64.wrap ((q : Int) + 1) = ((q + 1 : Nat) : Int) := w64 (by omega)
    have hcq : (q : Int) < (l.length : Int) := by omega
    have hz3 : z = 3 := hz (by rintro rfl; simp at hc)
    have hia : pev (.iaddr 3) [.lst z f (l.map T.cells), .sc (.int .i64 (q : Nat))] = some (.iptr t.cells) := by
      subst hz3; rw [pev_iaddrL (by omega)]; simp [ht]
    obtain ⟨hi, he⟩ := List.getElem?_eq_some_iff.1 ht
    have hd : (l.drop q).any g = (g t || (l.drop (q + 1)).any g) := by
      rw [List.drop_eq_getElem_cons hi, he, List.any_cons]
    obtain ⟨S2, hQ2, hcall⟩ := hg t (List.mem_of_getElem? ht) S' hQ
    cases hb : g t with
    | true =>
      rw [hb] at hcall hd
      rw [hd]
      simp [f408_l0, g0, g1, g7, g8, hcq, hia, hcall]
      rw [hkk]
      simp
      exact ⟨_, S2, hQ2, by omega, rfl, rfl⟩
    | false =>
      rw [hb] at hcall hd
      simp [f408_l0, g0, g1, g7, g8, hcq, hia, hcall, w2]
      refine ih (q + 1) _ _ _ (by omega) (fun _ h => ?_) ?_
      · rw [hd]; simpa using h
      · exact ⟨by omega, hQ2, by simp [g0], by simp [g1], by simp [g7], by simp⟩
  · have hq' : q = l.length := by omega
    subst hq'
    simp [f408_l0, g7, g8]
    rw [hkk]
    simp
    exact ⟨_, S', hQ, by omega, rfl, rfl⟩
theorem any320 {l : List T} {z : Nat} {f : Bool} (hz : l ≠ [] → z = 3) (hl : l.length ≤ 4611686018427387904) {k : Nat} {cap : List AV} {g : T → Bool} (hS : Vw c S)
    (hg : ∀ t ∈ l, ∀ S', VQ c S S' → ∃ S'', VQ c S S'' ∧ call k (.agg t.cells :: cap) S' = some (.sc (.bool (g t)), S'')) :
    ∃ S', VQ c S S' ∧ call 320 [.lst z f (l.map T.cells), .fn k [] cap] S = some (.sc (.bool (l.any g)), S') := by
  rw [call_keep a320 (by simp) rfl]
  obtain ⟨n, S', hQ, hn, hc⟩ := ix408 (f := f) hz hl hS hg
  refine ⟨S', hQ, ?_⟩
  simp [f320, f320b, hc, hn]
theorem c423 {kp : Nat} {L : List T} (hk : MkF c kp L) (h : Vw c S) {l : List T} {z : Nat} {f : Bool} (hz : l ≠ [] → z = 3) (hl : l.length ≤ 4611686018427387904) (ht : ∀ t ∈ l, t.tidy) :
    ∃ S', VQ c S S' ∧ call 423 [.ptr kp 0 0, .lst z f (l.map T.cells)] S = some (.sc (.bool (l.all (mkP L))), S') := by
  rw [call_keep a423 (by simp) rfl]
  obtain ⟨S', hQ, hc⟩ := any320 (f := f) (k := 424) (cap := [.iptr [.ptr kp 0 0]]) (g := fun t => !mkP L t) hz hl h fun t hm S1 hQ1 => by
    obtain ⟨S2, hQ2, hc⟩ := c424 hk hQ1.1 (ht t hm)
    exact ⟨S2, hQ1.trans hQ2, hc⟩
  refine ⟨S', hQ, ?_⟩
  rw [← any_not]
  have hib : pev .ibox [.ptr kp 0 0] = some (.iptr [.ptr kp 0 0]) := rfl
  simp [f423, f423b, hib, hc]
/- rows of terms -/
structure RW where
  z : Nat
  f : Bool
  l : List T
def RW.v (r : RW) : AV := .lst r.z r.f (r.l.map T.cells)
structure RW.ok (r : RW) : Prop where
  z : r.l ≠ [] → r.z = 3
  len : r.l.length ≤ 4611686018427387904
  tidy : ∀ t ∈ r.l, t.tidy
@[simp] theorem RW.reg {r : RW} : r.v.isReg = false := rfl
@[simp] theorem RW.cell {r : RW} : r.v.isCell = true := rfl
def vcV (c : VC) : AV := .iptr [.ptr c.k1 0 0, .ptr c.k2 0 0, .mp c.m]
@[simp] theorem vcV_reg : (vcV c).isReg = false := rfl
/- a variable that holds a function -/
def Fq (S : AS) (q : Nat) : Prop := S.heap q = some (.rows 1 [[.fn 423 [] []]])
theorem c426 {q : Nat} (hq : Fq S q) (h : Vw c S) {r : RW} (hr : r.ok) : ∃ S', VQ c S S' ∧ call 426 [r.v, .ptr q 0 0, vcV c] S = some (.sc (.bool (r.l.all (mkP c.L2))), S') := by
  rw [call_keep a426 (by simp [vcV]) rfl]
  obtain ⟨S', hQ, hc⟩ := c423 mkF2 h (f := r.f) hr.z hr.len hr.tidy
  have hl : ∀ d rg, opev (.ld none 1 false) d rg S [.ptr q 0 0] = some (.fn 423 [] [], none, S) := fun d rg => by rw [opev_ld_ptr hq]; rfl
  refine ⟨S', hQ, ?_⟩
  have hc : call 423 [.ptr c.k2 0 0, r.v] S = _ := hc
  simp [f426, f426b, hl, vcV, hc]
theorem c427 {q : Nat} (hq : Fq S q) (h : Vw c S) {r : RW} (hr : r.ok) : ∃ S', VQ c S S' ∧ call 427 [r.v, .ptr q 0 0, vcV c] S = some (.sc (.bool (r.l.all (mkP c.L1))), S') := by
  rw [call_keep a427 (by simp [vcV]) rfl]
  obtain ⟨S', hQ, hc⟩ := c423 mkF1 h (f := r.f) hr.z hr.len hr.tidy
  have hl : ∀ d rg, opev (.ld none 1 false) d rg S [.ptr q 0 0] = some (.fn 423 [] [], none, S) := fun d rg => by rw [opev_ld_ptr hq]; rfl
  refine ⟨S', hQ, ?_⟩
  have hc : call 423 [.ptr c.k1 0 0, r.v] S = _ := hc
  simp [f427, f427b, hl, vcV, hc]
theorem ix465 {l : List RW} {z : Nat} {f : Bool} (hz : l ≠ [] → z = 1) (hl : l.length ≤ 4611686018427387904) {k : Nat} {cap : List AV} {g : RW → Bool} (hS : Vw c S)
    (hg : ∀ t ∈ l, ∀ S', VQ c S S' → ∃ S'', VQ c S S'' ∧ call k (t.v :: cap) S' = some (.sc (.bool (g t)), S'')) :
    ∃ n S', VQ c S S' ∧ decide (0 ≤ n) = l.any g ∧ call 465 [.lst z f (l.map fun r => [r.v]), .fn k [] cap] S = some (.sc (.int .i64 n), S') := by
  rw [call_keep a465 (by simp) rfl]
  simp only [f465]
  simp [f465b]
  have h0 : l.any g = (l.drop 0).any g := rfl
  rw [h0]
  refine loop_gen (α := Nat) (R := fun q r => ∃ n S', VQ c S S' ∧ decide (0 ≤ n) = (l.drop q).any g ∧ r = some (.sc (.int .i64 n), S')) (fun q e rg S' => q ≤ l.length ∧ VQ c S S' ∧ e 0 = .lst z f (l.map fun r => [r.v]) ∧ e 1 = .fn k [] cap ∧ e 7 = .sc (.int .i64 (l.length : Nat)) ∧ e 8 = .sc (.int .i64 (q : Nat))) (fun q => l.length - q) ?_ 0 _ _ _ ?_
  rotate_left
  · exact ⟨by omega, VQ.refl hS, by simp, by simp, by simp, by simp⟩
  intro kk hkk q e rg S' ⟨hq, hQ, g0, g1, g7, g8⟩ ih
  by_cases hc : q < l.length
  · obtain ⟨t, ht⟩ := get_of_lt hc
    have w2 : IntKind.i64.wrap ((q : Int) + 1) = ((q + 1 : Nat) : Int) := w64 (by omega)
    have hcq : (q : Int) < (l.length : Int) := by omega
    have hz3 : z = 1 := hz (by rintro rfl; simp at hc)
    have hia : pev (.iaddr 1) [.lst z f (l.map fun r => [r.v]), .sc (.int .i64 (q : Nat))] = some (.iptr [t.v]) := by
      subst hz3; rw [pev_iaddrL (by omega)]; simp [ht]
    obtain ⟨hi, he⟩ := List.getElem?_eq_some_iff.1 ht
    have hd : (l.drop q).any g = (g t || (l.drop (q + 1)).any g) := by
      rw [List.drop_eq_getElem_cons hi, he, List.any_cons]
    obtain ⟨S2, hQ2, hcall⟩ := hg t (List.mem_of_getElem? ht) S' hQ
    cases hb : g t with
    | true =>
      rw [hb] at hcall hd
      rw [hd]
      simp [f465_l0, g0, g1, g7, g8, hcq, hia, hcall]
      rw [hkk]
      simp
      exact ⟨_, S2, hQ2, by omega, rfl, rfl⟩
    | false =>
      rw [hb] at hcall hd
      simp [f465_l0, g0, g1, g7, g8, hcq, hia, hcall, w2]
      refine ih (q + 1) _ _ _ (by omega) (fun _ h => ?_) ?_
      · rw [hd]; simpa using h
      · exact ⟨by omega, hQ2, by simp [g0], by simp [g1], by simp [g7], by simp⟩
  · have hq' : q = l.length := by omega
    subst hq'
    simp [f465_l0, g7, g8]
    rw [hkk]
    simp
    exact ⟨_, S', hQ, by omega, rfl, rfl⟩
theorem any425 {l : List RW} {z : Nat} {f : Bool} (hz : l ≠ [] → z = 1) (hl : l.length ≤ 4611686018427387904) {k : Nat} {cap : List AV} {g : RW → Bool} (hS : Vw c S)
    (hg : ∀ t ∈ l, ∀ S', VQ c S S' → ∃ S'', VQ c S S'' ∧ call k (t.v :: cap) S' = some (.sc (.bool (g t)), S'')) :
    ∃ S', VQ c S S' ∧ call 425 [.lst z f (l.map fun r => [r.v]), .fn k [] cap] S = some (.sc (.bool (l.any g)), S') := by
  rw [call_keep a425 (by simp) rfl]
  obtain ⟨n, S', hQ, hn, hc⟩ := ix465 (f := f) hz hl hS hg
  refine ⟨S', hQ, ?_⟩
  simp [f425, f425b, hc, hn]
/- gained -/
def gnL (L1 L2 : List T) (rows : List (List T)) : Bool := rows.any (fun r => r.all (mkP L2)) && !rows.any (fun r => r.all (mkP L1))
def gn (c : VC) (rows : List RW) : Bool := rows.any (fun r => r.l.all (mkP c.L2)) && !rows.any (fun r => r.l.all (mkP c.L1))
theorem gn_eq {rows : List RW} : gn c rows = gnL c.L1 c.L2 (rows.map RW.l) := by
  unfold gn gnL
  rw [List.any_map, List.any_map]; rfl
theorem c357 (h : Vw c S) {l : List RW} {z : Nat} {f : Bool} (hz : l ≠ [] → z = 1) (hl : l.length ≤ 1000) (hr : ∀ r ∈ l, r.ok) (hS : S.ro ≤ S.n) :
    ∃ S', VQ c S S' ∧ call 357 [.agg [.ptr c.k1 0 0, .ptr c.k2 0 0, .mp c.m], .lst z f (l.map fun r => [r.v])] S = some (.sc (.bool (gn c l)), S') := by
  rw [call_keep a357 (by simp) rfl]
  obtain ⟨S1, hS1⟩ : ∃ S1, S1 = (S.new (.rows 1 [[.sc .nilFunc]])).set S.n (some (.rows 1 [[.fn 423 [] []]])) := ⟨_, rfl⟩
  have hal : ∀ d rg, opev (.alloc .heap [.sc .nilFunc]) d rg S [] = some (.ptr S.n 0 0, none, S.new (.rows 1 [[.sc .nilFunc]])) := fun d rg => rfl
  have hst : ∀ d rg, opev (.st none 1) d rg (S.new (.rows 1 [[.sc .nilFunc]])) [.ptr S.n 0 0, .fn 423 [] []] = some (.junk, none, S1) := fun d rg => by
    simp [opev, heap_new, hS1]
    exact hS
  have hQ1 : VQ c S S1 := h.alloc (by rw [hS1]; rfl) (by rw [hS1]; exact Nat.le_succ _) fun x hx => by
    rw [hS1]
    show (if x = S.n then _ else if x = S.n then _ else S.heap x) = _
    rw [if_neg (by omega), if_neg (by omega)]
  have hn1 : S1.n = S.n + 1 := by rw [hS1]; rfl
  have hq1 : Fq S1 S.n := by rw [hS1]; exact if_pos rfl
  obtain ⟨M1, M2, K1, K2⟩ := h.ex
  have hFq : ∀ S', VQ c S1 S' → Fq S' S.n := fun S' hq => (hq.2.2.2 S.n (by omega) (by have := K1.lj; omega) (by have := K2.lj; omega)).trans hq1
  obtain ⟨S2, hQ2, e2⟩ := any425 (f := f) (k := 426) (cap := [.ptr S.n 0 0, vcV c]) (g := fun r => r.l.all (mkP c.L2)) hz (by omega) hQ1.1 fun r hm S' hq => by
    obtain ⟨S'', hq', hc⟩ := c426 (hFq S' hq) hq.1 (hr r hm)
    exact ⟨S'', hq.trans hq', hc⟩
  obtain ⟨S3, hQ3, e3⟩ := any425 (S := S2) (f := f) (k := 427) (cap := [.ptr S.n 0 0, vcV c]) (g := fun r => r.l.all (mkP c.L1)) hz (by omega) hQ2.1 fun r hm S' hq => by
    obtain ⟨S'', hq', hc⟩ := c427 (hFq S' (hQ2.trans hq)) hq.1 (hr r hm)
    exact ⟨S'', hq.trans hq', hc⟩
  refine ⟨S3, (hQ1.trans hQ2).trans hQ3, ?_⟩
  have hib : pev .ibox [.agg [.ptr c.k1 0 0, .ptr c.k2 0 0, .mp c.m]] = some (vcV c) := rfl
  unfold gn
  generalize hA : l.any (fun r => r.l.all (mkP c.L2)) = A at *
  generalize hB : l.any (fun r => r.l.all (mkP c.L1)) = B at *
  cases A <;> simp [f357, f357b, hib, hal, hst, e2, e3]
end
end Abs

namespace Abs
open Go

/- is a term a test? -/
def tstL (L1 L2 TH : List T) (t : T) : Bool :=
  if t.kind = 4 then gnL L1 L2 [t.kids.take 1]
  else if t.kind = 5 ∨ t.kind = 6 ∨ t.kind = 7 ∨ t.kind = 8 then inL TH t && gnL L1 L2 [t.kids]
  else if t.kind = 9 then (match t.kids with | [x, y] => inL TH t && gnL L1 L2 [[x, tPub y], [y, tPub x]] | _ => false)
  else if t.kind = 10 then (match t.kids with | [x, y] => inL TH t && mkP L1 x && gnL L1 L2 [[y]] | _ => false)
  else false
section
variable {c : VC} {S : AS}
def rwT (l : List T) : RW := ⟨if (l.map T.cells).isEmpty then 0 else 3, false, l⟩
theorem rwT_v {l : List T} : (rwT l).v = lstT l := rfl
theorem rwT_ok {l : List T} (hl : l.length ≤ 4611686018427387904) (ht : ∀ t ∈ l, t.tidy) : (rwT l).ok := by
  refine ⟨fun h => ?_, hl, ht⟩
  have h : l ≠ [] := h
  show (if (l.map T.cells).isEmpty then 0 else 3) = 3
  cases l with
  | nil => exact absurd rfl h
  | cons _ _ => rfl
theorem T.tidy.klen {t : T} (h : t.tidy) : t.kids.length ≤ 4611686018427387904 := by have h1 := t.bulk_len; have h2 := h.bulk; omega
theorem Vw.look (h : Vw c S) {t : T} (ht : t.rshp = true) (d : Option Nat) (rg : Nat → Option (List AV)) : opev (.lookup true (.sc (.bool false)) false) d rg S [.mp c.m, .sc (.string t.text)] = some (.sc (.bool (inL c.TH t)), none, S) := by
  obtain ⟨f, hf, h1, _⟩ := @find_is c.TH t ht h.th
  simp only [opev, h.hm, isStr, ne_eq, not_true, if_false, Option.bind_some, hf, Option.map_some, h1, Bool.false_eq_true]
theorem e121t {t : T} (ht : t.tidy) : call 121 [.agg t.cells] S = some (.sc (.string t.text), S) := by rw [s121 ht.bulk, ht.txt]
theorem ld_vc (d : Option Nat) (rg : Nat → Option (List AV)) : opev (.ld none 3 true) d rg S [vcV c] = some (.agg [.ptr c.k1 0 0, .ptr c.k2 0 0, .mp c.m], none, S) := rfl
theorem fa_vc0 : pev (.faddr 0) [vcV c] = some (vcV c) := rfl
theorem fa_vc2 : pev (.faddr 2) [vcV c] = some (.iptr [.mp c.m]) := rfl
/- the closures: what they answer -/
def TsOk (c : VC) (k : Nat) (t : T) (b : Bool) : Prop := ∀ S, Vw c S → S.ro ≤ S.n → ∃ S', VQ c S S' ∧ call k [.agg t.cells, vcV c] S = some (.sc (.bool b), S')
theorem c358 {t a b : T} (ht : t.tidy) (hk : t.kids = [a, b]) : TsOk c 358 t (gnL c.L1 c.L2 [[a]]) := by
  intro S h hS
  rw [call_keep a358 (by simp) rfl]
  have hta : a.tidy := ht.kid (by rw [hk]; simp)
  obtain ⟨S', hQ, hc⟩ := c357 h (l := [⟨3, false, [a]⟩]) (z := 1) (f := true) (fun _ => rfl) (by simp) (by simp only [List.mem_singleton]; rintro r rfl; exact ⟨fun _ => rfl, by simp, by simpa using hta⟩) hS
  rw [gn_eq] at hc
  refine ⟨S', hQ, ?_⟩
  have hsl : pev (.sliceL 3 false true false) [lstT [a, b], .i 1] = some (.lst 3 false [a.cells]) := by simp [pev, lstT, lstN, bound]
  simp only [List.map_cons, List.map_nil, RW.v] at hc
  simp [f358, f358b, ld_vc, hk, hsl, hc]
theorem c356 {t : T} (ht : t.tidy) : TsOk c 356 t (inL c.TH t && gnL c.L1 c.L2 [t.kids]) := by
  intro S h hS
  rw [call_keep a356 (by simp) rfl]
  have e121 := fun S => @e121t S t ht
  have lk := h.look ht.rshp
  obtain ⟨S', hQ, hc⟩ := c357 h (l := [rwT t.kids]) (z := 1) (f := true) (fun _ => rfl) (by simp) (by simp only [List.mem_singleton]; rintro r rfl; exact rwT_ok ht.klen fun u hu => ht.kid hu) hS
  rw [gn_eq] at hc
  simp only [List.map_cons, List.map_nil, rwT_v] at hc
  have hl : (rwT t.kids).l = t.kids := rfl
  rw [hl] at hc
  generalize gnL c.L1 c.L2 [t.kids] = g at *
  cases hi : inL c.TH t with
  | false =>
    rw [hi] at lk
    exact ⟨S, VQ.refl h, by simp [f356, f356b, ld_vc, fa_vc2, e121, lk]⟩
  | true =>
    rw [hi] at lk
    exact ⟨S', hQ, by simp [f356, f356b, ld_vc, fa_vc2, e121, lk, hc]⟩
theorem c359 {t x y : T} (ht : t.tidy) (hk : t.kids = [x, y]) (hx : (tPub x).tidy) (hy : (tPub y).tidy) : TsOk c 359 t (inL c.TH t && gnL c.L1 c.L2 [[x, tPub y], [y, tPub x]]) := by
  intro S h hS
  rw [call_keep a359 (by simp) rfl]
  have e121 := fun S => @e121t S t ht
  have lk := h.look ht.rshp
  have htx : x.tidy := ht.kid (by rw [hk]; simp)
  have hty : y.tidy := ht.kid (by rw [hk]; simp)
  have two : ∀ a b : T, a.tidy → b.tidy → RW.ok ⟨3, true, [a, b]⟩ := fun a b ha hb => ⟨fun _ => rfl, by simp, by simp only [List.mem_cons, List.not_mem_nil, or_false]; rintro u (rfl | rfl) <;> assumption⟩
  obtain ⟨S', hQ, hc⟩ := c357 h (l := [⟨3, true, [x, tPub y]⟩, ⟨3, true, [y, tPub x]⟩]) (z := 1) (f := true) (fun _ => rfl) (by simp) (by
    simp only [List.mem_cons, List.not_mem_nil, or_false]
    rintro r (rfl | rfl)
    · exact two _ _ htx hy
    · exact two _ _ hty hx) hS
  rw [gn_eq] at hc
  simp only [List.map_cons, List.map_nil, RW.v] at hc
  generalize gnL c.L1 c.L2 [[x, tPub y], [y, tPub x]] = g at *
  have l0 : pev (.iaddr 3) [lstT [x, y], .i 0] = some (.iptr x.cells) := lstT_at (i := 0) rfl
  have l1 : pev (.iaddr 3) [lstT [x, y], .i 1] = some (.iptr y.cells) := lstT_at (i := 1) rfl
  cases hi : inL c.TH t with
  | false =>
    rw [hi] at lk
    exact ⟨S, VQ.refl h, by simp [f359, f359b, ld_vc, fa_vc2, e121, lk, hk, l0, l1]⟩
  | true =>
    rw [hi] at lk
    exact ⟨S', hQ, by simp [f359, f359b, ld_vc, fa_vc2, e121, lk, hk, l0, l1, hc]⟩
theorem c361 {t x y : T} (ht : t.tidy) (hk : t.kids = [x, y]) : TsOk c 361 t (inL c.TH t && mkP c.L1 x && gnL c.L1 c.L2 [[y]]) := by
  intro S h hS
  rw [call_keep a361 (by simp) rfl]
  have e121 := fun S => @e121t S t ht
  have lk := h.look ht.rshp
  have htx : x.tidy := ht.kid (by rw [hk]; simp)
  have hty : y.tidy := ht.kid (by rw [hk]; simp)
  obtain ⟨S1, hQ1, e231⟩ := h.mk1 htx
  obtain ⟨S', hQ, hc⟩ := c357 hQ1.1 (l := [⟨3, false, [y]⟩]) (z := 1) (f := true) (fun _ => rfl) (by simp) (by simp only [List.mem_singleton]; rintro r rfl; exact ⟨fun _ => rfl, by simp, by simpa using hty⟩) (by have := hQ1.2.1; have := hQ1.2.2.1; omega)
  rw [gn_eq] at hc
  simp only [List.map_cons, List.map_nil, RW.v] at hc
  generalize gnL c.L1 c.L2 [[y]] = g at *
  have l0 : pev (.iaddr 3) [lstT [x, y], .i 0] = some (.iptr x.cells) := lstT_at (i := 0) rfl
  have hsl : pev (.sliceL 3 true false false) [lstT [x, y], .i 1] = some (.lst 3 false [y.cells]) := by simp [pev, lstT, lstN, bound]
  have fa2 : pev (.faddr 0) [vcV c] = some (vcV c) := rfl
  have ld1 : ∀ (d : Option Nat) (rg : Nat → Option (List AV)) (S : AS), opev (.ld none 1 false) d rg S [vcV c] = some (.ptr c.k1 0 0, none, S) := fun _ _ _ => rfl
  cases hi : inL c.TH t with
  | false =>
    rw [hi] at lk
    exact ⟨S, VQ.refl h, by simp [f361, f361b, ld_vc, fa_vc2, e121, lk, hk, l0, hsl, fa2, ld1]⟩
  | true =>
    rw [hi] at lk
    cases hm : mkP c.L1 x with
    | false =>
      rw [hm] at e231
      exact ⟨S1, hQ1, by simp [f361, f361b, ld_vc, fa_vc2, e121, lk, hk, l0, hsl, fa2, ld1, e231]⟩
    | true =>
      rw [hm] at e231
      exact ⟨S', hQ1.trans hQ, by simp [f361, f361b, ld_vc, fa_vc2, e121, lk, hk, l0, hsl, fa2, ld1, e231, hc]⟩
end
end Abs

namespace Abs
open Go

theorem new_set {S : AS} {o o' : AObj} : (S.new o).set S.n (some o') = S.new o' := by
  unfold AS.set AS.new
  simp only [AS.mk.injEq, and_true]
  funext x
  split <;> rfl
def fw (c : VC) (k : Nat) : AV := .fn k [] [vcV c]
def TW (c : VC) : List (Value × AV) := [(.int .i64 4, fw c 358), (.int .i64 5, fw c 356), (.int .i64 6, fw c 356), (.int .i64 7, fw c 356), (.int .i64 8, fw c 356), (.int .i64 9, fw c 359), (.int .i64 10, fw c 361)]
section
variable {S : AS} {c : VC}
theorem ms_new {es : List (Value × AV)} {k : Int} {v : AV} (hv : v.isReg = false) (hf : findK (.int .i64 k) es 0 = some none) (hS : S.ro ≤ S.n) (d : Option Nat) (rg : Nat → Option (List AV)) :
    opev (.mapset false) d rg (S.new (.map es)) [.mp S.n, .sc (.int .i64 k), v] = some (.junk, none, S.new (.map (es ++ [(.int .i64 k, v)]))) := by
  have h1 : (S.new (.map es)).ro ≤ S.n := hS
  have h2 : (S.new (.map es)).heap S.n = some (.map es) := heap_new
  simp only [opev, h1, hv, isStr, h2, hf, Option.map_some, and_self, if_true, new_set]
theorem c258 (hS : S.ro ≤ S.n) : call 258 [.agg [.ptr c.k1 0 0, .ptr c.k2 0 0, .mp c.m]] S = some (.mp S.n, S.new (.map (TW c))) := by
  rw [call_keep a258 (by simp) rfl]
  have m1 : ∀ d rg (S : AS), opev .mkmap d rg S [] = some (.mp S.n, none, S.new (.map [])) := fun _ _ _ => rfl
  have hib : pev .ibox [.agg [.ptr c.k1 0 0, .ptr c.k2 0 0, .mp c.m]] = some (vcV c) := rfl
  have mf : ∀ k, pev (.mkfn k 0) [vcV c] = some (fw c k) := fun k => rfl
  have fr : ∀ k, (fw c k).isReg = false := fun k => rfl
  have s1 := fun d rg => ms_new (S := S) (es := []) (k := 4) (v := fw c 358) rfl rfl hS d rg
  have s2 := fun d rg => ms_new (S := S) (es := [(.int .i64 4, fw c 358)]) (k := 5) (v := fw c 356) rfl rfl hS d rg
  have s3 := fun d rg => ms_new (S := S) (es := [(.int .i64 4, fw c 358), (.int .i64 5, fw c 356)]) (k := 6) (v := fw c 356) rfl rfl hS d rg
  have s4 := fun d rg => ms_new (S := S) (es := [(.int .i64 4, fw c 358), (.int .i64 5, fw c 356), (.int .i64 6, fw c 356)]) (k := 7) (v := fw c 356) rfl rfl hS d rg
  have s5 := fun d rg => ms_new (S := S) (es := [(.int .i64 4, fw c 358), (.int .i64 5, fw c 356), (.int .i64 6, fw c 356), (.int .i64 7, fw c 356)]) (k := 8) (v := fw c 356) rfl rfl hS d rg
  have s6 := fun d rg => ms_new (S := S) (es := [(.int .i64 4, fw c 358), (.int .i64 5, fw c 356), (.int .i64 6, fw c 356), (.int .i64 7, fw c 356), (.int .i64 8, fw c 356)]) (k := 9) (v := fw c 359) rfl rfl hS d rg
  have s7 := fun d rg => ms_new (S := S) (es := [(.int .i64 4, fw c 358), (.int .i64 5, fw c 356), (.int .i64 6, fw c 356), (.int .i64 7, fw c 356), (.int .i64 8, fw c 356), (.int .i64 9, fw c 359)]) (k := 10) (v := fw c 361) rfl rfl hS d rg
  simp only [List.nil_append, List.cons_append] at s1 s2 s3 s4 s5 s6 s7
  unfold TW
  simp [f258, f258b, m1, hib, mf, fr, s1, s2, s3, s4, s5, s6, s7]
/- what is looked up for a term's kind -/
inductive TstR (c : VC) (t : T) (b : Bool) : Prop
  | no (h : b = false) (lk : ∀ (S : AS) (w : Nat), S.heap w = some (.map (TW c)) → ∀ d rg, opev (.lookup false (.sc .nilFunc) false) d rg S [.mp w, .sc (.int .i64 t.kind)] = some (.sc .nilFunc, none, S))
  | yes (k : Nat) (lk : ∀ (S : AS) (w : Nat), S.heap w = some (.map (TW c)) → ∀ d rg, opev (.lookup false (.sc .nilFunc) false) d rg S [.mp w, .sc (.int .i64 t.kind)] = some (fw c k, none, S)) (h : TsOk c k t b)
theorem lk_tw {k : Int} {f : Option (Nat × AV)} (hf : findK (.int .i64 k) (TW c) 0 = some f) (S : AS) (w : Nat) (hw : S.heap w = some (.map (TW c))) (d : Option Nat) (rg : Nat → Option (List AV)) :
    opev (.lookup false (.sc .nilFunc) false) d rg S [.mp w, .sc (.int .i64 k)] = some (lookVal (.sc .nilFunc) f, none, S) := by
  simp only [opev, hw, isStr, ne_eq, not_true, if_false, Option.bind_some, hf, Option.map_some, Bool.false_eq_true]
theorem tst_of {t : T} (h : t.tidy) (h9 : t.kind = 9 → ∀ u ∈ t.kids, (tPub u).tidy) : TstR c t (tstL c.L1 c.L2 c.TH t) := by
  by_cases e4 : t.kind = 4
  · obtain ⟨a, b, hab⟩ := two_kids h (by rw [e4]; rfl)
    have e : tstL c.L1 c.L2 c.TH t = gnL c.L1 c.L2 [[a]] := by unfold tstL; rw [if_pos e4, hab]; rfl
    rw [e]
    exact .yes 358 (fun S w hw d rg => by rw [e4]; exact lk_tw (f := some (0, fw c 358)) rfl S w hw d rg) (c358 h hab)
  · by_cases e5 : t.kind = 5 ∨ t.kind = 6 ∨ t.kind = 7 ∨ t.kind = 8
    · have e : tstL c.L1 c.L2 c.TH t = (inL c.TH t && gnL c.L1 c.L2 [t.kids]) := by unfold tstL; rw [if_neg e4, if_pos e5]
      rw [e]
      refine .yes 356 (fun S w hw d rg => ?_) (c356 h)
      rcases e5 with e5 | e5 | e5 | e5 <;> rw [e5]
      · exact lk_tw (f := some (1, fw c 356)) rfl S w hw d rg
      · exact lk_tw (f := some (2, fw c 356)) rfl S w hw d rg
      · exact lk_tw (f := some (3, fw c 356)) rfl S w hw d rg
      · exact lk_tw (f := some (4, fw c 356)) rfl S w hw d rg
    · by_cases e9 : t.kind = 9
      · obtain ⟨x, y, hab⟩ := two_kids h (by rw [e9]; rfl)
        have e : tstL c.L1 c.L2 c.TH t = (inL c.TH t && gnL c.L1 c.L2 [[x, tPub y], [y, tPub x]]) := by unfold tstL; rw [if_neg e4, if_neg e5, if_pos e9, hab]
        rw [e]
        exact .yes 359 (fun S w hw d rg => by rw [e9]; exact lk_tw (f := some (5, fw c 359)) rfl S w hw d rg) (c359 h hab (h9 e9 x (by rw [hab]; simp)) (h9 e9 y (by rw [hab]; simp)))
      · by_cases e10 : t.kind = 10
        · obtain ⟨x, y, hab⟩ := two_kids h (by rw [e10]; rfl)
          have e : tstL c.L1 c.L2 c.TH t = (inL c.TH t && mkP c.L1 x && gnL c.L1 c.L2 [[y]]) := by unfold tstL; rw [if_neg e4, if_neg e5, if_neg e9, if_pos e10, hab]
          rw [e]
          exact .yes 361 (fun S w hw d rg => by rw [e10]; exact lk_tw (f := some (6, fw c 361)) rfl S w hw d rg) (c361 h hab)
        · have e : tstL c.L1 c.L2 c.TH t = false := by unfold tstL; rw [if_neg e4, if_neg e5, if_neg e9, if_neg e10]
          rw [e]
          refine .no rfl fun S w hw d rg => ?_
          have hf : findK (.int .i64 t.kind) (TW c) 0 = some none := by
            unfold TW
            simp only [findK, sameKey, if_true]
            have q4 : (t.kind == 4) = false := by simp [e4]
            have q5 : (t.kind == 5) = false := by simp; omega
            have q6 : (t.kind == 6) = false := by simp; omega
            have q7 : (t.kind == 7) = false := by simp; omega
            have q8 : (t.kind == 8) = false := by simp; omega
            have q9 : (t.kind == 9) = false := by simp [e9]
            have q10 : (t.kind == 10) = false := by simp [e10]
            rw [q4, q5, q6, q7, q8, q9, q10]
          exact lk_tw hf S w hw d rg
end
end Abs

namespace Abs
open Go

theorem addA_app : ∀ {m L : List T}, (L ++ m).Nodup → addA L m = L ++ m
  | [], L, _ => by simp [addA]
  | t :: m, L, h => by
    have ht : inL L t = false := by
      rw [Bool.eq_false_iff]; intro hi
      have := inL_iff.1 hi
      rw [List.nodup_append] at h
      exact h.2.2 t this t (by simp) rfl
    have e : addL L t = L ++ [t] := by unfold addL; rw [ht]; rfl
    show (t :: m).foldl addL L = _
    rw [List.foldl_cons, e]
    have := @addA_app m (L ++ [t]) (by rw [List.append_assoc]; exact h)
    unfold addA at this
    rw [this, List.append_assoc]; rfl
theorem addA_self {L : List T} (h : L.Nodup) : addA [] L = L := by
  have := @addA_app L [] (by simpa using h)
  simpa using this
def testB (L1 L2 : List T) (s : T) : Bool := mkP L1 s || L2.any (tstL L1 L2 L1)
def RT (S : AS) (b : Bool) (r : Option (AV × AS)) : Prop := ∃ t : T, calmR S r = some (.tup [.agg t.cells, .sc (.bool b)], S)
section
variable {S : AS}
theorem calm_TB {S' : AS} {t : T} {b : Bool} : calmR S (some (.tup [.agg t.cells, .sc (.bool b)], S')) = some (.tup [.agg t.cells, .sc (.bool b)], S) := by
  have h : ∀ t : T, S'.frzTo S.n 2 (.agg t.cells) = some (.agg t.cells) := fun t => agg_frz S' S.n 2 t
  have h2 : S'.frzTo S.n 2 (.tup [.agg t.cells, .sc (.bool b)]) = some (.tup [.agg t.cells, .sc (.bool b)]) := by
    have := h t
    simp only [AS.frzTo, AV.frz, Option.map_eq_some_iff] at this
    obtain ⟨x, hx, e⟩ := this
    cases e
    simp only [AS.frzTo, AV.frz, frzL, hx, Option.map_some, Option.bind_some]
  show (S'.frzTo S.n 2 _).bind _ = _
  rw [h2]
  have hp : (AV.tup [.agg t.cells, .sc (.bool b)]).pure = true := by
    have := agg_pure t
    simp only [AV.pure, pureL, Bool.and_true] at this ⊢
    exact this
  show (if (AV.tup [.agg t.cells, .sc (.bool b)]).pure then _ else none) = _
  rw [if_pos hp]
theorem RT.mk {S' : AS} {t : T} {b : Bool} : RT S b (some (.tup [.agg t.cells, .sc (.bool b)], S')) := ⟨t, calm_TB⟩
theorem tZ_cells : [AV.i 0, .s ⟨#[]⟩, .lst 0 true []] = (zT : List AV) := rfl
theorem RT.zero {S' : AS} {b : Bool} : RT S b (some (.tup [.agg [.i 0, .s ⟨#[]⟩, .lst 0 true []], .sc (.bool b)], S')) := by
  refine ⟨tZ, ?_⟩
  have e : tZ.cells = [.i 0, .s ⟨#[]⟩, .lst 0 false []] := rfl
  rw [e]
  simp [calmR, AS.frzTo, AV.frz, frzL, frzR, lstN, pureR]
theorem NQ_any {tm rgs : List Nat} {e : Nat → AV} (h : NQ tm rgs e) : NQ tm rgs e := h
set_option maxHeartbeats 16000000 in
set_option maxRecDepth 100000 in
theorem s144 {x0 : AV} {frame U : List T} {s : T} {b : Bool} (hts : IsTs S x0 frame) (hU : UOk U) (hf : ∀ t ∈ frame, t ∈ U) (hs : s ∈ U) (hfl : frame.length ≤ 900) (h9 : ∀ t ∈ U, t.kind = 9 → ∀ u ∈ t.kids, (tPub u).tidy)
    (hb : ∀ L1 L2, KnowL frame U L1 → KnowL (frame ++ [s]) U L2 → testB L1 L2 s = b) : ∃ t : T, call 144 [x0, .agg s.cells] S = some (.tup [.agg t.cells, .sc (.bool b)], S) := by
  rw [call_calm' a144 (args' := [x0.nrm, .agg s.cells]) (by simp [hts.reg]) (by simp) rfl]
  have hxr := hts.nrm.reg
  have hxn := hts.nn
  obtain ⟨S0, hS0⟩ : ∃ S0 : AS, S0 = ⟨S.heap, S.n, S.n⟩ := ⟨_, rfl⟩
  have ht0 : IsTs S0 x0.nrm frame := by rw [hS0]; exact hts.nrm.ro
  have r0 : S0.ro ≤ S0.n := by rw [hS0]; exact Nat.le_refl _
  generalize x0.nrm = x at *
  have hst := hU.tidy s hs
  have e254 := fun S => @s254 s S hst
  have e116 : ∀ S, call 116 [.agg s.cells] S = some (.sc (.bool true), S) := fun S => by rw [s116 hst.fits (T.ofit_bulk hst.bulk), hst.right]
  obtain ⟨L1, hK1, hN1, e255⟩ := s255 ht0 hU hf (by omega)
  -- the frame with the secret
  have hrw : rowsOf 3 S0 x = some (frame.map T.cells) := by have := ht0.r0; rw [hxn] at this; exact this
  obtain ⟨S1, hS1⟩ : ∃ S1, S1 = S0.new (.rows 3 (frame.map T.cells)) := ⟨_, rfl⟩
  have e256 : call 256 [x] S0 = some (.arr S0.n 3 0 frame.length none, S1) := by
    rw [c256 hxr]
    simp [cloneG, hrw, hS1]
    omega
  have hO1 : Own S0 S1 3 (.arr S0.n 3 0 frame.length none) (frame.map T.cells) := by
    rw [hS1]
    exact ⟨old_new, r0, .inr ⟨S0.n, by simp, heap_new, Nat.le_refl _, Nat.lt_succ_self _⟩⟩
  obtain ⟨v2, S2, hap, hO2, v2r, _, _⟩ := hO1.push (n := frame.length) (bytes := 48) (r := s.cells) (f := true) (d := none) (rg := fun _ => none) (by simp) (by omega)
  have hap' : ∀ d rg, opev (.append 3 48) d rg S1 [.arr S0.n 3 0 frame.length none, .lst 3 true [s.cells]] = some (v2, none, S2) := fun d rg => hap
  have hl2 : frame.map T.cells ++ [s.cells] = (frame ++ [s]).map T.cells := by simp
  rw [hl2] at hO2
  have hf2 : ∀ t ∈ frame ++ [s], t ∈ U := fun t ht => by
    rcases List.mem_append.1 ht with h | h
    · exact hf t h
    · simp at h; rw [h]; exact hs
  obtain ⟨L2, hK2, hN2, e255'⟩ := s255 hO2.isTs hU hf2 (by simp; omega)
  have hLU1 := nodup_le hN1 hK1.sub
  have hLU2 := nodup_le hN2 hK2.sub
  have hUl := hU.len
  have r2 : S2.ro ≤ S2.n := by have := hO2.ro; have := hO2.old.n; omega
  obtain ⟨S3, M1, v3, e257, k1, r3, n3, x3⟩ := c257 (S := S2) (frame := L1) (fun t ht => hU.tidy t (hK1.sub t ht)) (by omega) r2
  obtain ⟨S4, M2, v4, e257', k2, r4, n4, x4⟩ := c257 (S := S3) (frame := L2) (fun t ht => hU.tidy t (hK2.sub t ht)) (by omega) (by omega)
  rw [addA_self hN1] at k1
  rw [addA_self hN2] at k2
  obtain ⟨S5, hS5⟩ : ∃ S5, S5 = S4.new (.map []) := ⟨_, rfl⟩
  have m1 : ∀ d rg, opev .mkmap d rg S4 [] = some (.mp S4.n, none, S5) := fun _ _ => by rw [hS5]; rfl
  have n5 : S5.n = S4.n + 1 := by rw [hS5]; rfl
  have r5 : S5.ro = S4.ro := by rw [hS5]; rfl
  have h5 : ∀ x, x < S4.n → S5.heap x = S4.heap x := fun x hx => by rw [hS5]; exact if_neg (by omega)
  have hm5 : S5.heap S4.n = some (.map []) := by rw [hS5]; exact heap_new
  have own1 : ∀ x, KOwn (S2.n + 2) S2.n (S2.n + 1) v3 x → x < S3.n := fun x hx => k1.own_lt hx
  have k1' : KN S5 (S2.n + 2) S2.n (S2.n + 1) L1 M1 v3 := k1.keep (by omega) (by omega) fun x hx _ => (h5 x (by omega)).trans (x4 x hx).1
  have k2' : KN S5 (S3.n + 2) S3.n (S3.n + 1) L2 M2 v4 := k2.keep (by omega) (by omega) fun x hx _ => h5 x hx
  have own2 : ∀ x, KOwn (S3.n + 2) S3.n (S3.n + 1) v4 x → S3.n ≤ x ∧ x < S4.n := fun x hx => ⟨by
    rcases Nat.lt_or_ge x S3.n with h | h
    · exact absurd hx (x4 x h).2
    · exact h, k2.own_lt hx⟩
  generalize hk1 : S2.n + 2 = kid1 at *
  generalize hi1 : S2.n = i1 at *
  generalize hj1 : i1 + 1 = j1 at *
  generalize hk2 : S3.n + 2 = kid2 at *
  generalize hi2 : S3.n = i2 at *
  generalize hj2 : i2 + 1 = j2 at *
  generalize hm : S4.n = m at *
  let c0 : VC := ⟨kid1, i1, j1, v3, L1, kid2, i2, j2, v4, L2, m, []⟩
  let c1 : VC := ⟨kid1, i1, j1, v3, L1, kid2, i2, j2, v4, L2, m, L1⟩
  have V5 : Vw c0 S5 := ⟨⟨M1, M2, k1', k2'⟩, fun x hx hy => by have := own1 x hx; have := (own2 x hy).1; omega, hm5, by show m ≠ j1; omega, by show m ≠ j2; omega, by show m < S5.n; omega, fun u hu => absurd hu List.not_mem_nil⟩
  obtain ⟨S6, hQ6, e231⟩ := V5.mk1 hst
  have e231 : call 231 [.ptr kid1 0 0, .agg s.cells] S5 = some (.sc (.bool (mkP L1 s)), S6) := e231
  have hbb := hb L1 L2 hK1 hK2
  unfold testB at hbb
  show ∃ t : T, calmR S _ = _
  show RT S b _
  rw [← hS0]
  cases hmk : mkP L1 s with
  | true =>
    rw [hmk] at e231 hbb
    have hbb : true = b := hbb
    subst hbb
    simp [-calmR_some, f144, f144b, e254, e116, e255, e256, hap', e255', e257, e257', m1, e231, hxr, v2r]
    exact RT.mk
  | false =>
    rw [hmk] at e231 hbb
    rw [Bool.false_or] at hbb
    simp only [f144]
    simp [-calmR_some, f144b, e254, e116, e255, e256, hap', e255', e257, e257', m1, e231, hxr, v2r]
    -- what is there, by its text
    have V6 := hQ6.1
    obtain ⟨M1', M2', q1, q2⟩ := V6.ex
    have r6 : S6.ro ≤ m := by have := hQ6.2.1; omega
    have n6 : S5.n ≤ S6.n := hQ6.2.2.1
    have n1m : ∀ x, KOwn kid1 i1 j1 v3 x → x ≠ m := fun x hx => by have := own1 x hx; omega
    have n2m : ∀ x, KOwn kid2 i2 j2 v4 x → x ≠ m := fun x hx => by have := (own2 x hx).2; omega
    have start : S6 = S6.set m (some (.map (entI (L1.take 0)))) := (set_same (o := some (.map (entI []))) V6.hm).symm
    have hms : ∀ q t, L1[q]? = some t → ∀ d rg, opev (.mapset true) d rg (S6.set m (some (.map (entI (L1.take q))))) [.mp m, .sc (.string t.text), .sc (.bool true)] = some (.junk, none, S6.set m (some (.map (entI (L1.take (q + 1)))))) := by
      intro q t ht d rg
      have hts : t.rshp = true := (hU.tidy t (hK1.sub t (List.mem_of_getElem? ht))).rshp
      obtain ⟨f, hf, _, h2⟩ := @find_is (L1.take q) t hts fun u hu => (hU.tidy u (hK1.sub u (List.mem_of_mem_take hu))).rshp
      have hni : inL (L1.take q) t = false := by
        rw [Bool.eq_false_iff]; intro hi
        have hi := inL_iff.1 hi
        have hn := hN1
        rw [← List.take_append_drop q L1, List.nodup_append] at hn
        refine hn.2.2 t hi t ?_ rfl
        rw [List.mem_iff_getElem?]
        exact ⟨0, by rw [List.getElem?_drop]; exact ht⟩
      rw [hni] at h2
      have hfn : f = none := by cases f with | none => rfl | some _ => cases h2
      subst hfn
      have hh : (S6.set m (some (.map (entI (L1.take q))))).heap m = some (.map (entI (L1.take q))) := if_pos rfl
      have hro : (S6.set m (some (.map (entI (L1.take q))))).ro ≤ m := r6
      have hst : ∀ a b, (S6.set m a).set m b = S6.set m b := fun a b => by
        unfold AS.set
        simp only [AS.mk.injEq, and_true]
        funext x; split <;> rfl
      have he : entI (L1.take q) ++ [(.string t.text, .sc (.bool true))] = entI (L1.take (q + 1)) := by
        rw [List.take_add_one, ht]
        exact entI_app.symm
      simp only [opev, hro, isStr, hh, hf, Option.map_some, AV.isReg, and_self, if_true, hst, he]
    refine loop_genR (α := Nat) (R := fun _ r => RT S b r) (fun q e rg S' => q ≤ L1.length ∧ NQ [10, 43, 44, 45, 46, 47, 48, 49, 50] [10] e ∧ NQ [5, 13, 14, 56, 57, 58, 59, 60, 61, 62, 63, 64, 65, 66, 67, 68, 69, 70, 71] [13] e ∧ e 40 = lstT L1 ∧ e 41 = .sc (.int .i64 (L1.length : Nat)) ∧ e 42 = .sc (.int .i64 (q : Nat)) ∧
      e 8 = .reg 8 0 ∧ rg 8 = some [.ptr kid1 0 0, .ptr kid2 0 0, .mp m] ∧ e 7 = lstT L2 ∧ e 4 = .reg 4 0 ∧ rg 4 = some [.i 0, .s ⟨#[]⟩, .lst 0 true []] ∧ rg 13 = none ∧ S' = S6.set m (some (.map (entI (L1.take q))))) (fun q => L1.length - q) (fun _ _ _ _ h => h.2.1) ?_ 0 _ _ _ ?_
    rotate_left
    · refine ⟨by omega, ?_, ?_, by simp, by simp, by simp, by simp, by simp, by simp, by simp, by simp, by simp, start⟩
      · repeat (first | exact NQ_ini (by simp [hxr]) | refine NQ_put ?_ (by simp [hxr, v2r]))
      · repeat (first | exact NQ_ini (by simp [hxr]) | refine NQ_put ?_ (by simp [hxr, v2r]))
    intro kk hkk q e rg S' ⟨hq, hn1, hn0, g40, g41, g42, g8, gr8, g7, g4, gr4, gr13, hS'⟩ ih
    subst hS'
    by_cases hc : q < L1.length
    · obtain ⟨t, ht⟩ := get_of_lt hc
      have hty := hU.tidy t (hK1.sub t (List.mem_of_getElem? ht))
      have w2 : IntKind.i64.wrap ((q : Int) + 1) = ((q + 1 : Nat) : Int) := w64 (by omega)
      have hcq : (q : Int) < (L1.length : Int) := by omega
      have e121 := fun S => @e121t S t hty
      have ms := hms q t ht
      simp [-calmR_some, f144_l1, g40, g41, g42, g8, gr8, hcq, lstT_at ht, e121, ms, w2]
      refine ih (q + 1) _ _ _ (by omega) (fun _ h => h) ?_
      refine ⟨by omega, ?_, ?_, by simp [g40], by simp [g41], by simp, by simp [g8], by simp [gr8], by simp [g7], by simp [g4], by simp [gr4], by simp [gr13], rfl⟩
      · repeat (first | exact NQ_fgt hn1 | refine NQ_put ?_ (by simp))
      · repeat (first | exact NQ_fg hn0 | refine NQ_put ?_ (by simp))
    · have hq' : q = L1.length := by omega
      subst hq'
      rw [List.take_length]
      simp [-calmR_some, f144_l1, g41, g42]
      rw [hkk]
      clear hkk ih
      obtain ⟨S7, hS7⟩ : ∃ S7, S7 = S6.set m (some (.map (entI L1))) := ⟨_, rfl⟩
      rw [← hS7]
      have hh7 : ∀ x, x ≠ m → S7.heap x = S6.heap x := fun x hx => by rw [hS7]; exact if_neg hx
      have V7 : Vw c1 S7 := ⟨⟨M1', M2', q1.keep (by rw [hS7]; rfl) (by rw [hS7]; exact Nat.le_refl _) fun x _ hx => hh7 x (n1m x hx), q2.keep (by rw [hS7]; rfl) (by rw [hS7]; exact Nat.le_refl _) fun x _ hx => hh7 x (n2m x hx)⟩, V6.ap, by rw [hS7]; exact if_pos rfl, V6.m1, V6.m2, by rw [hS7]; exact V6.lm, fun u hu => (hU.tidy u (hK1.sub u hu)).rshp⟩
      have r7 : S7.ro ≤ S7.n := by rw [hS7]; show S6.ro ≤ S6.n; omega
      have e258 := @c258 S7 c1 r7
      have e258 : call 258 [.agg [.ptr kid1 0 0, .ptr kid2 0 0, .mp m]] S7 = some (.mp S7.n, S7.new (.map (TW c1))) := e258
      have hQ8 : VQ c1 S7 (S7.new (.map (TW c1))) := V7.alloc rfl (Nat.le_succ _) fun x hx => if_neg (by omega)
      simp [-calmR_some, g8, gr8, g7, e258]
      have h00 : L2.any (tstL L1 L2 L1) = (L2.drop 0).any (tstL L1 L2 L1) := rfl
      rw [← hbb, h00]
      refine loop_genR (α := Nat) (R := fun q r => RT S ((L2.drop q).any (tstL L1 L2 L1)) r) (fun q e rg S' => q ≤ L2.length ∧ NQ [5, 13, 14, 56, 57, 58, 59, 60, 61, 62, 63, 64, 65, 66, 67, 68, 69, 70, 71] [13] e ∧ e 53 = lstT L2 ∧ e 54 = .sc (.int .i64 (L2.length : Nat)) ∧ e 55 = .sc (.int .i64 (q : Nat)) ∧ e 11 = .mp S7.n ∧
        e 4 = .reg 4 0 ∧ rg 4 = some [.i 0, .s ⟨#[]⟩, .lst 0 true []] ∧ VQ c1 (S7.new (.map (TW c1))) S') (fun q => L2.length - q) (fun _ _ _ _ h => h.2.1) ?_ 0 _ _ _ ?_
      rotate_left
      · refine ⟨by omega, ?_, by simp, by simp, by simp, by simp, by simp [g4], by simp [gr4], VQ.refl hQ8.1⟩
        · repeat (first | exact NQ_fg hn0 | exact hn0 | refine NQ_put ?_ (by simp))
      intro kk hkk q e rg S' ⟨hq, hn0, g53, g54, g55, g11, g4, gr4, hQ⟩ ih
      have hw : S'.heap S7.n = some (.map (TW c1)) := (hQ.2.2.2 S7.n (Nat.lt_succ_self _) (by have := V7.ex; obtain ⟨_, _, a, _⟩ := this; have := a.lj; omega) (by have := V7.ex; obtain ⟨_, _, _, a⟩ := this; have := a.lj; omega)).trans heap_new
      have rS : S'.ro ≤ S'.n := by have h1 := hQ.2.1; have h2 := hQ.2.2.1; have h3 : (S7.new (.map (TW c1))).ro = S7.ro := rfl; have h4 : (S7.new (.map (TW c1))).n = S7.n + 1 := rfl; omega
      by_cases hc : q < L2.length
      · obtain ⟨t, ht⟩ := get_of_lt hc
        have htU := hK2.sub t (List.mem_of_getElem? ht)
        have hty := hU.tidy t htU
        have w2 : IntKind.i64.wrap ((q : Int) + 1) = ((q + 1 : Nat) : Int) := w64 (by omega)
        have hcq : (q : Int) < (L2.length : Int) := by omega
        obtain ⟨hi, he⟩ := List.getElem?_eq_some_iff.1 ht
        have hbq : (L2.drop q).any (tstL L1 L2 L1) = (tstL L1 L2 L1 t || (L2.drop (q + 1)).any (tstL L1 L2 L1)) := by rw [List.drop_eq_getElem_cons hi, he, List.any_cons]
        have nf1 : pev (.nilF true) [.sc .nilFunc] = some (.sc (.bool false)) := rfl
        have nf2 : ∀ k, pev (.nilF true) [fw c1 k] = some (.sc (.bool true)) := fun k => rfl
        have fwr : ∀ k, (fw c1 k).isReg = false := fun k => rfl
        rcases @tst_of c1 t hty (h9 t htU) with ⟨hno, lk⟩ | ⟨k, lk, hts⟩
        · have lk' := lk S' S7.n hw
          have hno : tstL L1 L2 L1 t = false := hno
          rw [hno, Bool.false_or] at hbq
          simp [-calmR_some, f144_l0, g53, g54, g55, g11, hcq, lstT_at ht, lk', nf1, w2]
          refine ih (q + 1) _ _ _ (by omega) (fun _ h => by rw [hbq]; exact h) ?_
          refine ⟨by omega, ?_, by simp [g53], by simp [g54], by simp, by simp [g11], by simp [g4], by simp [gr4], hQ⟩
          repeat (first | exact NQ_fgt hn0 | refine NQ_put ?_ (by simp))
        · have lk' := lk S' S7.n hw
          obtain ⟨S'', hQ', hcall⟩ := hts S' hQ.1 rS
          have hcv : callvA AA S' [fw c1 k, .agg t.cells] = some (.sc (.bool (tstL L1 L2 L1 t)), S'') := hcall
          cases htt : tstL L1 L2 L1 t with
          | true =>
            rw [htt] at hcv hbq
            rw [hbq, Bool.true_or]
            simp [-calmR_some, f144_l0, g53, g54, g55, g11, g4, gr4, hcq, lstT_at ht, lk', nf2, hcv, fwr]
            rw [hkk]
            simp [-calmR_some, g4, gr4]
            exact RT.mk
          | false =>
            rw [htt] at hcv hbq
            rw [Bool.false_or] at hbq
            simp [-calmR_some, f144_l0, g53, g54, g55, g11, hcq, lstT_at ht, lk', nf2, hcv, fwr, w2]
            refine ih (q + 1) _ _ _ (by omega) (fun _ h => by rw [hbq]; exact h) ?_
            refine ⟨by omega, ?_, by simp [g53], by simp [g54], by simp, by simp [g11], by simp [g4], by simp [gr4], hQ.trans hQ'⟩
            repeat (first | exact NQ_fgt hn0 | refine NQ_put ?_ (by simp [fwr]))
      · have hq' : q = L2.length := by omega
        subst hq'
        rw [List.drop_length, List.any_nil]
        simp [-calmR_some, f144_l0, g54, g55]
        rw [hkk]
        simp [-calmR_some, g4, gr4]
        exact RT.zero
end
end Abs

namespace Abs
open Go

theorem inL_dec {L : List T} {t : T} : inL L t = decide (t ∈ L) := by
  by_cases h : t ∈ L
  · rw [inL_iff.2 h]; simp [h]
  · rw [Bool.eq_false_iff.2 fun e => h (inL_iff.1 e)]; simp [h]
theorem mk_no {L Q : List T} {t : T} (h : ∀ u ∈ L, u ∈ Q) (hq : mkP Q t = false) : mkP L t = false := by
  rw [Bool.eq_false_iff]
  intro e
  rw [mkP_mono h t e] at hq; cases hq
theorem in_no {L Q : List T} {t : T} (h : ∀ u ∈ L, u ∈ Q) (hq : t ∉ Q) : inL L t = false := by
  rw [Bool.eq_false_iff]
  intro e
  exact hq (h t (inL_iff.1 e))
theorem gn_no {L1 L2 : List T} {t : T} (h : mkP L2 t = false) : gnL L1 L2 [[t]] = false := by
  simp [gnL, h]
theorem more_no {L : List T} {t : T} (h : decL t = none) {P : T → Prop} : ∀ u ∈ moreL L t, P u := by
  unfold moreL; rw [h]; intro u hu; cases hu
theorem more_in {L l Q : List T} (h : ∀ u ∈ l, u ∈ Q) : ∀ u ∈ moreL L (tPair l), u ∈ Q := by rw [more_pair]; exact h
/- the terms -/
structure Hd where
  a : ByteArray
  b : ByteArray
  x : ByteArray
  y : ByteArray
  w : ByteArray
  u : T
  sh : T
namespace Hd
def A (h : Hd) : T := tAtom h.a
def B (h : Hd) : T := tData h.b
def W (h : Hd) : T := tAtom h.w
def mY (h : Hd) : T := tMsk (tAtom h.y) h.u
def mX (h : Hd) : T := tMsk (tAtom h.x) h.u
def key (h : Hd) (n : Int) : T := tUse (tHash (tPair [h.sh, tWd h.u, h.mY, h.mX, tHash h.B])) n
def fac (h : Hd) : T := tEnc (tUse (h.key 1) 60) (tPack facB [])
def off (h : Hd) : T := tPack spkB [h.mY]
def ans (h : Hd) : T := tPack spkB [h.mX, h.fac]
def Q1 (h : Hd) : List T := [h.B, h.off, h.ans, tData spkB, h.mY, h.mX, h.fac]
def Q2 (h : Hd) : List T := h.W :: tPub (tAtom h.y) :: tPub (tAtom h.x) :: h.Q1
def ck (h : Hd) : T := tUse (tCk h.A h.u) 54
def en (h : Hd) : T := tEnc h.ck (tTime h.B 5)
def ch (h : Hd) : T := tPack chalB [h.en]
def Q3 (h : Hd) : List T := [h.B, h.ch, tData chalB, h.en]
structure ok (h : Hd) : Prop where
  u : h.u = tKdf h.W ⟨#[108, 111, 110, 103, 32, 110, 97, 109, 101]⟩
  sh : h.sh = .mk 9 ⟨#[]⟩ [tAtom h.x, tAtom h.y] ∨ h.sh = .mk 9 ⟨#[]⟩ [tAtom h.y, tAtom h.x]
  wx : h.x ≠ h.w
  wy : h.y ≠ h.w
  wa : h.a ≠ h.w
end Hd
section
attribute [local simp] mkP mkPL shP inL_dec Hd.Q1 Hd.Q2 Hd.Q3 Hd.A Hd.W Hd.B Hd.off Hd.ans Hd.mY Hd.mX Hd.fac Hd.key Hd.ck Hd.en Hd.ch tAtom tData tPack tPair tMsk tMask tEnc tPub tHash tKdf tUse tWd tCk tJoin tTime
variable {h : Hd}
theorem Hd.n1 (k : h.ok) : mkP h.Q1 h.W = false ∧ mkP h.Q1 (tWd h.u) = false ∧ mkP h.Q1 (tPub (tAtom h.y)) = false ∧ mkP h.Q1 (tPub (tAtom h.x)) = false ∧ mkP h.Q1 (tUse (h.key 1) 60) = false ∧ mkP h.Q1 (h.key 0) = false := by
  obtain ⟨a, b, x, y, w, u, sh⟩ := h
  obtain ⟨hu, hsh, wx, wy, wa⟩ := k
  have hu : u = tKdf (tAtom w) ⟨#[108, 111, 110, 103, 32, 110, 97, 109, 101]⟩ := hu
  simp only at hsh wx wy wa
  subst hu
  rcases hsh with rfl | rfl <;> simp
theorem Hd.n2 (k : h.ok) : mkP h.Q2 (tUse (h.key 1) 60) = false ∧ mkP h.Q2 (h.key 0) = false := by
  obtain ⟨a, b, x, y, w, u, sh⟩ := h
  obtain ⟨hu, hsh, wx, wy, wa⟩ := k
  have hu : u = tKdf (tAtom w) ⟨#[108, 111, 110, 103, 32, 110, 97, 109, 101]⟩ := hu
  simp only at hsh wx wy wa
  subst hu
  rcases hsh with rfl | rfl <;> simp [wx, wy]
theorem Hd.n3 (k : h.ok) : mkP h.Q3 h.W = false ∧ mkP h.Q3 h.ck = false ∧ mkP (h.W :: h.Q3) h.ck = false ∧ mkP (h.A :: h.Q3) h.W = false ∧ mkP (h.A :: h.Q3) h.ck = false ∧ mkP [h.A, h.W] h.ck = true := by
  obtain ⟨a, b, x, y, w, u, sh⟩ := h
  obtain ⟨hu, hsh, wx, wy, wa⟩ := k
  have hu : u = tKdf (tAtom w) ⟨#[108, 111, 110, 103, 32, 110, 97, 109, 101]⟩ := hu
  simp only at hsh wx wy wa
  subst hu
  have wa' : w ≠ a := fun e => wa e.symm
  simp [wa, wa']
/- what is gathered -/
theorem Hd.c1 (k : h.ok) : ∀ t ∈ h.Q1, ∀ u ∈ moreL h.Q1 t, u ∈ h.Q1 := by
  obtain ⟨_, n2, _, _, n5, _⟩ := Hd.n1 k
  intro t ht
  simp only [Hd.Q1, List.mem_cons, List.not_mem_nil, or_false] at ht
  rcases ht with rfl | rfl | rfl | rfl | rfl | rfl | rfl
  · exact more_no rfl
  · exact more_in (l := [tData spkB, h.mY]) (by simp only [Hd.Q1, List.mem_cons, List.not_mem_nil, or_false]; rintro u (rfl | rfl) <;> simp only [true_or, or_true])
  · exact more_in (l := [tData spkB, h.mX, h.fac]) (by simp only [Hd.Q1, List.mem_cons, List.not_mem_nil, or_false]; rintro u (rfl | rfl | rfl) <;> simp only [true_or, or_true])
  · exact more_no rfl
  · have e : moreL h.Q1 h.mY = [] := by
      have : decL h.mY = some ([tWd h.u], [tPub (tAtom h.y)]) := rfl
      unfold moreL; rw [this]; simp only [mkPL, n2]; rfl
    rw [e]; intro u hu; cases hu
  · have e : moreL h.Q1 h.mX = [] := by
      have : decL h.mX = some ([tWd h.u], [tPub (tAtom h.x)]) := rfl
      unfold moreL; rw [this]; simp only [mkPL, n2]; rfl
    rw [e]; intro u hu; cases hu
  · have e : moreL h.Q1 h.fac = [] := by
      have : decL h.fac = some ([tUse (h.key 1) 60], [tPack facB []]) := rfl
      unfold moreL; rw [this]; simp only [mkPL, n5]; rfl
    rw [e]; intro u hu; cases hu
theorem Hd.c2 (k : h.ok) : ∀ t ∈ h.Q2, ∀ u ∈ moreL h.Q2 t, u ∈ h.Q2 := by
  obtain ⟨n5, _⟩ := Hd.n2 k
  intro t ht
  simp only [Hd.Q2, Hd.Q1, List.mem_cons, List.not_mem_nil, or_false] at ht
  rcases ht with rfl | rfl | rfl | rfl | rfl | rfl | rfl | rfl | rfl | rfl
  · exact more_no rfl
  · exact more_no rfl
  · exact more_no rfl
  · exact more_no rfl
  · exact more_in (l := [tData spkB, h.mY]) (by simp only [Hd.Q2, Hd.Q1, List.mem_cons, List.not_mem_nil, or_false]; rintro u (rfl | rfl) <;> simp only [true_or, or_true])
  · exact more_in (l := [tData spkB, h.mX, h.fac]) (by simp only [Hd.Q2, Hd.Q1, List.mem_cons, List.not_mem_nil, or_false]; rintro u (rfl | rfl | rfl) <;> simp only [true_or, or_true])
  · exact more_no rfl
  · intro u hu
    have : decL h.mY = some ([tWd h.u], [tPub (tAtom h.y)]) := rfl
    unfold moreL at hu
    rw [this] at hu
    have hu : u = tPub (tAtom h.y) := by
      dsimp only at hu
      split at hu
      · simpa only [List.mem_cons, List.not_mem_nil, or_false] using hu
      · cases hu
    rw [hu]; simp only [Hd.Q2, List.mem_cons, true_or, or_true]
  · intro u hu
    have : decL h.mX = some ([tWd h.u], [tPub (tAtom h.x)]) := rfl
    unfold moreL at hu
    rw [this] at hu
    have hu : u = tPub (tAtom h.x) := by
      dsimp only at hu
      split at hu
      · simpa only [List.mem_cons, List.not_mem_nil, or_false] using hu
      · cases hu
    rw [hu]; simp only [Hd.Q2, List.mem_cons, true_or, or_true]
  · have e : moreL h.Q2 h.fac = [] := by
      have : decL h.fac = some ([tUse (h.key 1) 60], [tPack facB []]) := rfl
      unfold moreL; rw [this]; simp only [mkPL, n5]; rfl
    rw [e]; intro u hu; cases hu
theorem Hd.c3 (Q : List T) (hq : ∀ t ∈ Q, t = h.A ∨ t = h.W) (hk : mkP (Q ++ h.Q3) h.ck = false) : ∀ t ∈ Q ++ h.Q3, ∀ u ∈ moreL (Q ++ h.Q3) t, u ∈ Q ++ h.Q3 := by
  intro t ht
  rcases List.mem_append.1 ht with ht | ht
  · rcases hq t ht with rfl | rfl <;> exact more_no rfl
  · simp only [Hd.Q3, List.mem_cons, List.not_mem_nil, or_false] at ht
    rcases ht with rfl | rfl | rfl | rfl
    · exact more_no rfl
    · exact more_in (l := [tData chalB, h.en]) (by simp only [Hd.Q3, List.mem_append, List.mem_cons, List.not_mem_nil, or_false]; rintro u (rfl | rfl) <;> simp only [true_or, or_true])
    · exact more_no rfl
    · have e : moreL (Q ++ h.Q3) h.en = [] := by
        have : decL h.en = some ([h.ck], [tTime h.B 5]) := rfl
        unfold moreL; rw [this]; simp only [mkPL, hk]; rfl
      rw [e]; intro u hu; cases hu
end
section
variable {h : Hd} {U L L1 L2 : List T}
theorem Hd.l1 (k : h.ok) (hL : KnowL [h.B, h.off, h.ans] U L) : ∀ t ∈ L, t ∈ h.Q1 := hL.least _ (by simp [Hd.Q1]) (Hd.c1 k)
theorem Hd.l2 (k : h.ok) (hL : KnowL [h.B, h.off, h.ans, h.W] U L) : ∀ t ∈ L, t ∈ h.Q2 := hL.least _ (by simp [Hd.Q2, Hd.Q1]) (Hd.c2 k)
theorem Hd.l3 (k : h.ok) (hL : KnowL [h.B, h.ch] U L) : ∀ t ∈ L, t ∈ h.Q3 := by
  have := hL.least ([] ++ h.Q3) (by simp [Hd.Q3]) (Hd.c3 [] (by simp) (Hd.n3 k).2.1)
  simpa using this
theorem Hd.l4 (k : h.ok) (hL : KnowL [h.B, h.ch, h.W] U L) : ∀ t ∈ L, t ∈ h.W :: h.Q3 := by
  have := hL.least ([h.W] ++ h.Q3) (by simp [Hd.Q3]) (Hd.c3 [h.W] (by simp) (Hd.n3 k).2.2.1)
  simpa using this
theorem Hd.l5 (k : h.ok) (hL : KnowL [h.B, h.ch, h.A] U L) : ∀ t ∈ L, t ∈ h.A :: h.Q3 := by
  have := hL.least ([h.A] ++ h.Q3) (by simp [Hd.Q3]) (Hd.c3 [h.A] (by simp) (Hd.n3 k).2.2.2.2.1)
  simpa using this
/- no guess of the password can be held against what is seen of an exchange -/
theorem Hd.t1 (k : h.ok) (h1 : KnowL [h.B, h.off, h.ans] U L1) (h2 : KnowL [h.B, h.off, h.ans, h.W] U L2) : testB L1 L2 h.W = false := by
  have s1 := Hd.l1 k h1
  have s2 := Hd.l2 k h2
  obtain ⟨m1, m2, m3, m4, m5, m6⟩ := Hd.n1 k
  obtain ⟨p1, p2⟩ := Hd.n2 k
  unfold testB
  rw [mk_no s1 m1, Bool.false_or, List.any_eq_false]
  intro t ht
  have := s2 t ht
  rw [Bool.not_eq_true]
  simp only [Hd.Q2, Hd.Q1, List.mem_cons, List.not_mem_nil, or_false] at this
  rcases this with rfl | rfl | rfl | rfl | rfl | rfl | rfl | rfl | rfl | rfl
  · rfl
  · show (inL L1 (tPub (tAtom h.y)) && _) = false
    rw [in_no s1 fun e => by rw [mk_in e] at m3; cases m3]; rfl
  · show (inL L1 (tPub (tAtom h.x)) && _) = false
    rw [in_no s1 fun e => by rw [mk_in e] at m4; cases m4]; rfl
  · rfl
  · rfl
  · rfl
  · rfl
  · show (inL L1 h.mY && mkP L1 (tPub (tAtom h.y)) && _) = false
    rw [mk_no s1 m3]; simp
  · show (inL L1 h.mX && mkP L1 (tPub (tAtom h.x)) && _) = false
    rw [mk_no s1 m4]; simp
  · show gnL L1 L2 [[tUse (h.key 1) 60]] = false
    exact gn_no (mk_no s2 p1)
/- nor against a challenge, under an armor that isn't known -/
theorem Hd.t2 (k : h.ok) (h1 : KnowL [h.B, h.ch] U L1) (h2 : KnowL [h.B, h.ch, h.W] U L2) : testB L1 L2 h.W = false := by
  have s1 := Hd.l3 k h1
  have s2 := Hd.l4 k h2
  obtain ⟨m1, m2, m3, m4, m5, m6⟩ := Hd.n3 k
  unfold testB
  rw [mk_no s1 m1, Bool.false_or, List.any_eq_false]
  intro t ht
  have := s2 t ht
  rw [Bool.not_eq_true]
  simp only [Hd.Q3, List.mem_cons, List.not_mem_nil, or_false] at this
  rcases this with rfl | rfl | rfl | rfl | rfl
  · rfl
  · rfl
  · rfl
  · rfl
  · show gnL L1 L2 [[h.ck]] = false
    exact gn_no (mk_no s2 m3)
/- under a known one it can -/
theorem Hd.t3 (k : h.ok) (h1 : KnowL [h.B, h.ch, h.A] U L1) (h2 : KnowL [h.B, h.ch, h.A, h.W] U L2) : testB L1 L2 h.W = true := by
  have s1 := Hd.l5 k h1
  obtain ⟨m1, m2, m3, m4, m5, m6⟩ := Hd.n3 k
  have hen : h.en ∈ L2 := by
    refine h2.closed h.ch (h2.has _ (by simp)) _ ?_
    have : moreL L2 h.ch = [tData chalB, h.en] := more_pair
    rw [this]; simp
  have e : tstL L1 L2 L1 h.en = gnL L1 L2 [[h.ck]] := rfl
  have mk : mkP L2 h.ck = true := mkP_mono (L := [h.A, h.W]) (fun u hu => h2.has u (by
    simp only [List.mem_cons, List.not_mem_nil, or_false] at hu ⊢
    rcases hu with rfl | rfl <;> simp)) _ m6
  unfold testB
  rw [mk_no s1 m4, Bool.false_or, List.any_eq_true]
  refine ⟨h.en, hen, ?_⟩
  rw [e]
  simp [gnL, mk, mk_no s1 m5]
end
end Abs

namespace Abs
open Go

mutual
def T.subs : T → List T
  | .mk k n l => .mk k n l :: subsL l
def subsL : List T → List T
  | [] => []
  | t :: l => t.subs ++ subsL l
end
theorem subs_self : ∀ t : T, t ∈ t.subs
  | .mk k n l => by rw [T.subs]; simp
theorem subsL_mem : ∀ {l : List T} {t : T}, t ∈ l → ∀ u ∈ t.subs, u ∈ subsL l
  | a :: l, t, h, u, hu => by
    rw [subsL, List.mem_append]
    rcases List.mem_cons.1 h with rfl | h
    · exact .inl hu
    · exact .inr (subsL_mem h u hu)
theorem subsL_in {l : List T} {t : T} (h : t ∈ l) : t ∈ subsL l := subsL_mem h t (subs_self t)
mutual
theorem subs_kids : ∀ (t u : T), u ∈ t.subs → ∀ v ∈ u.kids, v ∈ t.subs
  | .mk k n l, u, hu, v, hv => by
    rw [T.subs, List.mem_cons] at hu ⊢
    rcases hu with rfl | hu
    · exact .inr (subsL_in hv)
    · exact .inr (subsL_kids l u hu v hv)
theorem subsL_kids : ∀ (l : List T) (u : T), u ∈ subsL l → ∀ v ∈ u.kids, v ∈ subsL l
  | [], u, hu, v, hv => by cases hu
  | t :: l, u, hu, v, hv => by
    rw [subsL, List.mem_append] at hu ⊢
    rcases hu with hu | hu
    · exact .inl (subs_kids t u hu v hv)
    · exact .inr (subsL_kids l u hu v hv)
end
mutual
theorem subs_all {P : T → Prop} (hP : ∀ t, P t → ∀ u ∈ t.kids, P u) : ∀ (t : T), P t → ∀ u ∈ t.subs, P u
  | .mk k n l, h, u, hu => by
    rw [T.subs, List.mem_cons] at hu
    rcases hu with rfl | hu
    · exact h
    · exact subsL_all hP l (fun v hv => hP _ h v hv) u hu
theorem subsL_all {P : T → Prop} (hP : ∀ t, P t → ∀ u ∈ t.kids, P u) : ∀ (l : List T), (∀ t ∈ l, P t) → ∀ u ∈ subsL l, P u
  | [], _, u, hu => by cases hu
  | t :: l, h, u, hu => by
    rw [subsL, List.mem_append] at hu
    rcases hu with hu | hu
    · exact subs_all hP t (h t (by simp)) u hu
    · exact subsL_all hP l (fun v hv => h v (by simp [hv])) u hu
end
theorem subsL_len : ∀ {l : List T}, l.length ≤ (subsL l).length
  | [] => Nat.le_refl _
  | t :: l => by
    have := @subsL_len l
    have h : 1 ≤ t.subs.length := List.length_pos_of_mem (subs_self t)
    rw [subsL, List.length_append, List.length_cons]; omega
mutual
theorem subs_klen : ∀ (t u : T), u ∈ t.subs → u.kids.length ≤ t.subs.length
  | .mk k n l, u, hu => by
    rw [T.subs, List.mem_cons] at hu
    rw [T.subs, List.length_cons]
    rcases hu with rfl | hu
    · have := @subsL_len l
      show l.length ≤ _
      omega
    · have := subsL_klen l u hu; omega
theorem subsL_klen : ∀ (l : List T) (u : T), u ∈ subsL l → u.kids.length ≤ (subsL l).length
  | [], u, hu => by cases hu
  | t :: l, u, hu => by
    rw [subsL, List.mem_append] at hu
    rw [subsL, List.length_append]
    rcases hu with hu | hu
    · have := subs_klen t u hu; omega
    · have := subsL_klen l u hu; omega
end
def T.sb (t : T) : Prop := t.tidy ∧ t.bulk ≤ 1099511627770
theorem T.sb.kid {t u : T} (h : t.sb) (hu : u ∈ t.kids) : u.sb := ⟨h.1.kid hu, by have := T.bulk_kid hu; have := h.2; omega⟩
theorem uok_subs {l : List T} (h : ∀ t ∈ l, t.sb) (hl : (subsL l).length ≤ 500) : UOk (subsL l) where
  tidy := fun t ht => (subsL_all (fun t h u hu => T.sb.kid h hu) l h t ht).1
  kids := subsL_kids l
  len := by omega
  klen := fun t ht => by have := subsL_klen l t ht; omega
theorem pub_subs {l : List T} (h : ∀ t ∈ l, t.sb) : ∀ t ∈ subsL l, ∀ u ∈ t.kids, (tPub u).tidy := by
  intro t ht u hu
  have h1 := subsL_all (fun t h u hu => T.sb.kid h hu) l h t ht
  have h2 := h1.kid hu
  have hd := (T.right_iff.1 h1.1.right).2.1
  have := T.dp_kid hu
  exact tidy_pub h2.1 (by omega) h2.2

/- rightly built, so deep, so large -/
structure Ti (t : T) (d b : Nat) : Prop where
  s : t.rshp = true
  o : t.ord = true
  d : t.dp ≤ d
  b : t.bulk ≤ b
structure TiL (l : List T) (d b : Nat) : Prop where
  s : ∀ t ∈ l, t.rshp = true
  o : ∀ t ∈ l, t.ord = true
  d : ∀ t ∈ l, t.dp ≤ d
  b : bulkL l ≤ b
theorem Ti.sb {t : T} {d b : Nat} (h : Ti t d b) (hd : d ≤ 60) (hb : b ≤ 1099511627770) : t.sb := ⟨⟨T.right_iff.2 ⟨h.s, Nat.le_trans h.d hd, h.o⟩, by have := h.b; omega⟩, by have := h.b; omega⟩
theorem Ti.mono {t : T} {d b d' : Nat} (h : Ti t d b) (hd : d ≤ d') : Ti t d' b := ⟨h.s, h.o, Nat.le_trans h.d hd, h.b⟩
theorem TiL.nil {d : Nat} : TiL [] d 0 := ⟨by simp, by simp, by simp, by rw [bulkL_nil]; exact Nat.le_refl _⟩
theorem TiL.cons {t : T} {l : List T} {d b d' b' : Nat} (h : Ti t d' b) (h' : TiL l d b') (hd : d' ≤ d) : TiL (t :: l) d (b + b') := by
  refine ⟨fun u hu => ?_, fun u hu => ?_, fun u hu => ?_, by rw [bulkL_cons]; have := h.b; have := h'.b; omega⟩ <;> rcases List.mem_cons.1 hu with rfl | hu
  · exact h.s
  · exact h'.s u hu
  · exact h.o
  · exact h'.o u hu
  · exact Nat.le_trans h.d hd
  · exact h'.d u hu
theorem Ti.node {k : Int} {n : ByteArray} {l : List T} {d b m : Nat} (h1 : (T.mk k n l).one = true) (hs : shareOk k l = true) (h : TiL l d b) (hm : n.size ≤ m) : Ti (T.mk k n l) (d + 1) (b + m + 4) where
  s := by rw [T.rshp_def, h1, Bool.true_and]; exact rshpL_iff.2 h.s
  o := by rw [T.ord_def, ordL_all, Bool.and_eq_true, List.all_eq_true]; exact ⟨hs, h.o⟩
  d := by rw [T.dp_def]; have : dpL (T.mk k n l).kids ≤ d := dpL_le h.d; omega
  b := by rw [T.bulk]; have := h.b; omega
section
variable {t u : T} {n : ByteArray} {d d' b b' m : Nat} {l : List T}
theorem ti_atom (hn : n ≠ ⟨#[]⟩) (hm : n.size ≤ m) : Ti (tAtom n) 1 (m + 4) := by
  have := Ti.node (k := 2) (n := n) (l := []) (d := 0) (by simp [T.one, knd, nmd, kdn, T.kind, T.name, T.kids, hn]) rfl TiL.nil hm
  rw [Nat.zero_add, Nat.zero_add] at this; exact this
theorem ti_data (hn : n ≠ ⟨#[]⟩) (hm : n.size ≤ m) : Ti (tData n) 1 (m + 4) := by
  have := Ti.node (k := 1) (n := n) (l := []) (d := 0) (by simp [T.one, knd, nmd, kdn, T.kind, T.name, T.kids, hn]) rfl TiL.nil hm
  rw [Nat.zero_add, Nat.zero_add] at this; exact this
theorem ti_kdf (h : Ti t d b) (hn : n ≠ ⟨#[]⟩) (hm : n.size ≤ m) : Ti (tKdf t n) (d + 1) (b + 0 + m + 4) :=
  Ti.node (b := b + 0) (m := m) (k := 7) (by simp [T.one, knd, nmd, kdn, T.kind, T.name, T.kids, hn]) rfl (.cons h .nil (Nat.le_refl _)) hm
theorem ti_hash (h : Ti t d b) : Ti (tHash t) (d + 1) (b + 0 + 0 + 4) := Ti.node (b := b + 0) (m := 0) (k := 6) (by simp [T.one, knd, nmd, kdn, T.kind, T.name, T.kids]) rfl (.cons h .nil (Nat.le_refl _)) (Nat.le_refl _)
theorem ti_pub (h : Ti t d b) : Ti (tPub t) (d + 1) (b + 0 + 0 + 4) := Ti.node (b := b + 0) (m := 0) (k := 8) (by simp [T.one, knd, nmd, kdn, T.kind, T.name, T.kids]) rfl (.cons h .nil (Nat.le_refl _)) (Nat.le_refl _)
theorem ti_mask (h : Ti t d b) (h' : Ti u d' b') : Ti (tMask t u) (max d d' + 1) (b + (b' + 0) + 0 + 4) :=
  Ti.node (b := b + (b' + 0)) (m := 0) (k := 10) (by simp [T.one, knd, nmd, kdn, T.kind, T.name, T.kids]) rfl (.cons h (.cons h' .nil (Nat.le_max_right _ _)) (Nat.le_max_left _ _)) (Nat.le_refl _)
theorem ti_enc (h : Ti t d b) (h' : Ti u d' b') : Ti (tEnc t u) (max d d' + 1) (b + (b' + 0) + 0 + 4) :=
  Ti.node (b := b + (b' + 0)) (m := 0) (k := 4) (by simp [T.one, knd, nmd, kdn, T.kind, T.name, T.kids]) rfl (.cons h (.cons h' .nil (Nat.le_max_right _ _)) (Nat.le_max_left _ _)) (Nat.le_refl _)
theorem ti_pair (h : TiL l d b) : Ti (tPair l) (d + 1) (b + 0 + 4) := Ti.node (b := b) (m := 0) (k := 3) (by simp [T.one, knd, nmd, kdn, T.kind, T.name, T.kids]) rfl h (Nat.le_refl _)
theorem ti_pack (hn : n ≠ ⟨#[]⟩) (hm : n.size ≤ m) (h : TiL l d b) (hd : 1 ≤ d) : Ti (tPack n l) (d + 1) (m + 4 + b + 0 + 4) := ti_pair (.cons (ti_data hn hm) h hd)
theorem use_size {n : Int} (hn : inI n) : ((⟨#[117, 115, 101, 32]⟩ : ByteArray) ++ itoaB n).size ≤ 24 := by
  rw [ByteArray.size_append]
  have h1 : (⟨#[117, 115, 101, 32]⟩ : ByteArray).size = 4 := rfl
  have := itoa_sz hn
  omega
theorem ti_use {k : Int} (h : Ti t d b) (hk : inI k) : Ti (tUse t k) (d + 1) (b + 0 + 24 + 4) := ti_kdf h (app_nonempty (by show 4 ≠ 0; omega)) (use_size hk)
end
end Abs

namespace Abs
open Go

theorem sLt_asymm {x y : ByteArray} (h : sLt x y = true) : sLt y x = false := by
  rw [sLt_iff, decide_eq_true_eq] at h
  rw [sLt_iff, decide_eq_false_iff_not]
  exact List.lt_asymm h
theorem ti_share {a b : T} {d m : Nat} (ha : Ti a d m) (hb : Ti b d m) (hta : a.txt = a.text) (htb : b.txt = b.text) : Ti (tShare a b) (d + 1) (m + (m + 0) + 0 + 4) ∧ (tShare a b = .mk 9 ⟨#[]⟩ [a, b] ∨ tShare a b = .mk 9 ⟨#[]⟩ [b, a]) := by
  have one : ∀ u v : T, (T.mk 9 ⟨#[]⟩ [u, v]).one = true := fun u v => by simp [T.one, knd, nmd, kdn, T.kind, T.name, T.kids]
  unfold tShare
  split
  · rename_i h
    rw [hta, htb] at h
    exact ⟨Ti.node (b := m + (m + 0)) (m := 0) (one _ _) (by simp [shareOk, sLt_asymm h]) (.cons hb (.cons ha .nil (Nat.le_refl _)) (Nat.le_refl _)) (Nat.le_refl _), .inr rfl⟩
  · rename_i h
    rw [hta, htb, Bool.not_eq_true] at h
    exact ⟨Ti.node (b := m + (m + 0)) (m := 0) (one _ _) (by simp [shareOk, h]) (.cons ha (.cons hb .nil (Nat.le_refl _)) (Nat.le_refl _)) (Nat.le_refl _), .inl rfl⟩
def pwB : ByteArray := ⟨#[112, 97, 115, 115, 119, 111, 114, 100, 32]⟩
def lgB : ByteArray := ⟨#[108, 111, 110, 103, 32, 110, 97, 109, 101]⟩
def hdF (s : ByteArray) : Hd := ⟨akB ++ s, boB ++ s, xB ++ s, yB ++ s, pwB ++ s, tKdf (tAtom (pwB ++ s)) lgB, tShare (tAtom (xB ++ s)) (tAtom (yB ++ s))⟩
structure Hd.sbs (h : Hd) : Prop where
  A : h.A.sb
  B : h.B.sb
  W : h.W.sb
  off : h.off.sb
  ans : h.ans.sb
  ch : h.ch.sb
  base : (h.key 0).sb
theorem app_le {p s : ByteArray} {m : Nat} (hp : p.size ≤ 20) (hs : s.size ≤ m) : (p ++ s).size ≤ m + 20 := by rw [ByteArray.size_append]; omega
theorem hdF_ok {s : ByteArray} (hs : s.size ≤ 1048576) : (hdF s).ok ∧ (hdF s).sbs := by
  have na : akB ++ s ≠ ⟨#[]⟩ := app_nonempty (by show 3 ≠ 0; omega)
  have nb : boB ++ s ≠ ⟨#[]⟩ := app_nonempty (by show 5 ≠ 0; omega)
  have nx : xB ++ s ≠ ⟨#[]⟩ := app_nonempty (by show 2 ≠ 0; omega)
  have ny : yB ++ s ≠ ⟨#[]⟩ := app_nonempty (by show 2 ≠ 0; omega)
  have nw : pwB ++ s ≠ ⟨#[]⟩ := app_nonempty (by show 9 ≠ 0; omega)
  have za : (akB ++ s).size = 3 + s.size := by rw [ByteArray.size_append]; rfl
  have zx : (xB ++ s).size = 2 + s.size := by rw [ByteArray.size_append]; rfl
  have zy : (yB ++ s).size = 2 + s.size := by rw [ByteArray.size_append]; rfl
  have zb : (boB ++ s).size = 5 + s.size := by rw [ByteArray.size_append]; rfl
  have zw : (pwB ++ s).size = 9 + s.size := by rw [ByteArray.size_append]; rfl
  have tA := ti_atom (m := 1048600) na (by omega)
  have tX := ti_atom (m := 1048600) nx (by omega)
  have tY := ti_atom (m := 1048600) ny (by omega)
  have tW := ti_atom (m := 1048600) nw (by omega)
  have tB := ti_data (m := 1048600) nb (by omega)
  have tU := ti_kdf (n := lgB) (m := 9) tW (by decide) (Nat.le_refl _)
  obtain ⟨tS, hS⟩ := ti_share tX tY (tX.sb (by omega) (by omega)).1.txt (tY.sb (by omega) (by omega)).1.txt
  have tWd' := ti_kdf (n := ⟨#[119, 111, 114, 100]⟩) (m := 4) tU (by decide) (Nat.le_refl _)
  have tmY := ti_mask (ti_pub tY) tWd'
  have tmX := ti_mask (ti_pub tX) tWd'
  have tH := ti_hash tB
  have i0 : inI 0 := by unfold inI; omega
  have i1 : inI 1 := by unfold inI; omega
  have i54 : inI 54 := by unfold inI; omega
  have i60 : inI 60 := by unfold inI; omega
  have tP := ti_hash (ti_pair (d := 10) (.cons tS (.cons tWd' (.cons tmY (.cons tmX (.cons tH .nil (by omega)) (by omega)) (by omega)) (by omega)) (by omega)))
  have tK0 := ti_use tP i0
  have tK1 := ti_use (ti_use tP i1) i60
  have tF := ti_enc tK1 (ti_pack (n := facB) (m := 6) (d := 1) (by decide) (Nat.le_refl _) .nil (Nat.le_refl _))
  have tOff := ti_pack (n := spkB) (m := 5) (d := 20) (by decide) (Nat.le_refl _) (.cons tmY .nil (by omega)) (by omega)
  have tAns := ti_pack (n := spkB) (m := 5) (d := 30) (by decide) (Nat.le_refl _) (.cons tmX (.cons tF .nil (by omega)) (by omega)) (by omega)
  have jB : ∀ f : ByteArray, f.size ≤ 90 → ((⟨#[106, 111, 105, 110, 32]⟩ : ByteArray) ++ f) ≠ ⟨#[]⟩ ∧ ((⟨#[106, 111, 105, 110, 32]⟩ : ByteArray) ++ f).size ≤ 95 := fun f hf => ⟨app_nonempty (by show 5 ≠ 0; omega), by
    rw [ByteArray.size_append]
    have : (⟨#[106, 111, 105, 110, 32]⟩ : ByteArray).size = 5 := rfl
    omega⟩
  obtain ⟨j1, j2⟩ := jB armB (by show 20 ≤ 90; omega)
  obtain ⟨j3, j4⟩ := jB lonB (by show 17 ≤ 90; omega)
  have tCK := ti_use (ti_hash (ti_pair (d := 10) (.cons (ti_kdf tA j1 j2) (.cons (ti_kdf tU j3 j4) .nil (by omega)) (by omega)))) i54
  have i5 : inI 5 := by unfold inI; omega
  have n5 : (eqB (itoaB 5)) ≠ ⟨#[]⟩ ∧ (eqB (itoaB 5)).size ≤ 21 := ⟨word_ne, by rw [eqB_size]; have := itoa_sz i5; omega⟩
  have tN : Ti (tNum 5) 1 (21 + 4) := ti_data n5.1 n5.2
  have tT := ti_pack (n := timeB) (m := 4) (d := 5) (by decide) (Nat.le_refl _) (.cons tN (.cons tH .nil (by omega)) (by omega)) (by omega)
  have tC := ti_pack (n := chalB) (m := 9) (d := 30) (by decide) (Nat.le_refl _) (.cons (ti_enc tCK tT) .nil (by omega)) (by omega)
  refine ⟨⟨rfl, hS, ?_, ?_, ?_⟩, ⟨tA.sb (by omega) (by omega), tB.sb (by omega) (by omega), tW.sb (by omega) (by omega), tOff.sb (by omega) (by omega), tAns.sb (by omega) (by omega), tC.sb (by omega) (by omega), tK0.sb (by omega) (by omega)⟩⟩
  · intro e
    have e : xB ++ s = pwB ++ s := e
    have := congrArg ByteArray.size e
    omega
  · intro e
    have e : yB ++ s = pwB ++ s := e
    have := congrArg ByteArray.size e
    omega
  · intro e
    have e : akB ++ s = pwB ++ s := e
    have := congrArg ByteArray.size e
    omega
theorem hdF_len {s : ByteArray} (k : (hdF s).ok) : (subsL [(hdF s).B, (hdF s).off, (hdF s).ans, (hdF s).W]).length ≤ 500 ∧ (subsL [(hdF s).B, (hdF s).ch, (hdF s).A, (hdF s).W]).length ≤ 500 := by
  have hu : (hdF s).u = tKdf (tAtom (hdF s).w) lgB := rfl
  have hs := k.sh
  generalize hdF s = h at *
  obtain ⟨a, b, x, y, w, u, sh⟩ := h
  simp only at hu hs
  subst hu
  rcases hs with rfl | rfl <;>
    simp [T.subs, subsL, Hd.A, Hd.B, Hd.W, Hd.off, Hd.ans, Hd.ch, Hd.en, Hd.ck, Hd.fac, Hd.key, Hd.mX, Hd.mY, tAtom, tData, tPack, tPair, tMsk, tMask, tEnc, tPub, tHash, tKdf, tUse, tWd, tCk, tJoin, tTime, tNum, tWord]
end Abs

namespace Abs
open Go

section
variable {S : AS}
theorem s145 {a : T} : call 145 [.agg a.cells, .s ⟨#[110, 97, 109, 101]⟩] S = some (.agg (tKdf a lgB).cells, S) := by
  rw [call_calm a145 rfl (by simp) rfl]
  have p1 : pev (.bin .add) [.s ⟨#[108, 111, 110, 103, 32]⟩, .s ⟨#[110, 97, 109, 101]⟩] = some (.sc (.string lgB)) := pev_sadd (by decide)
  have e := fun S => @s259 S a lgB
  simp [f145, f145b, p1, e]
theorem T.sb.bb {t : T} (h : t.sb) : t.bb := bulk_bd h.1.bulk
set_option maxHeartbeats 8000000 in
set_option maxRecDepth 100000 in
theorem law37 {s : ByteArray} (hS : S.ro ≤ S.n) (hs : s.size ≤ 1048576) : Tru (call 37 [.sc (.string s)] S) := by
  rw [call_keep a37 (by simp) rfl]
  obtain ⟨k, q⟩ := hdF_ok hs
  obtain ⟨l1, l2⟩ := hdF_len k
  have g := nmF_good (s := s) (by omega)
  have e146 := @s146
  have e152 := fun S => @s152 S s (by omega)
  have p0 := pev_sadd (x := pwB) (y := s) (by show 9 + _ ≤ _; omega)
  have e145 := fun S => @s145 S (tAtom (pwB ++ s))
  have e153 : ∀ S, call 153 [.agg (hdF s).u.cells, .agg (nmF s).y.cells] S = some (.agg (hdF s).off.cells, S) := fun S => @s153 S (hdF s).u (nmF s).y
  have e154 : ∀ S, call 154 [.agg (hdF s).u.cells, .agg (nmF s).body.cells, .agg (hdF s).off.cells, .agg (nmF s).x.cells] S = some (resA ((hdF s).ans, (hdF s).key 0, 0), S) := fun S => by
    have e := @s154 S (hdF s).u (nmF s).body (tPoint (hdF s).u (nmF s).y) (nmF s).x q.off.bb (sh154 g.xy)
    rw [ans_point, if_pos rfl] at e
    exact e
  have i5 : inI 5 := by unfold inI; omega
  have e148 : ∀ S, call 148 [.agg (nmF s).ak.cells, .agg (hdF s).u.cells, .agg (nmF s).body.cells, .i 5] S = some (.agg (hdF s).ch.cells, S) := fun S => @s148 S (nmF s).ak (hdF s).u (nmF s).body 5 i5
  have hB : (nmF s).body = (hdF s).B := rfl
  have hA : (nmF s).ak = (hdF s).A := rfl
  have hW : tAtom (pwB ++ s) = (hdF s).W := rfl
  have hU : tKdf (tAtom (pwB ++ s)) lgB = (hdF s).u := rfl
  rw [hB] at e154 e148
  rw [hA] at e148
  rw [hU] at e145
  simp only [hW] at e145
  have e152' : ∀ S, call 152 [.sc (.string s)] S = some (.agg (nmF s).cells, S) := e152
  have c6 : (nmF s).body.cells = (hdF s).B.cells := rfl
  have c0 : (nmF s).ak.cells = (hdF s).A.cells := rfl
  have cW : (tAtom (pwB ++ s)).cells = (hdF s).W.cells := rfl
  generalize nmF s = f at *
  generalize hdF s = h at *
  -- what is deduced
  have m1 : ∀ t ∈ [h.B, h.off, h.ans, h.W], t.sb := by
    simp only [List.mem_cons, List.not_mem_nil, or_false]
    rintro t (rfl | rfl | rfl | rfl)
    · exact q.B
    · exact q.off
    · exact q.ans
    · exact q.W
  have m2 : ∀ t ∈ [h.B, h.ch, h.A, h.W], t.sb := by
    simp only [List.mem_cons, List.not_mem_nil, or_false]
    rintro t (rfl | rfl | rfl | rfl)
    · exact q.B
    · exact q.ch
    · exact q.A
    · exact q.W
  have u1 := uok_subs m1 l1
  have u2 := uok_subs m2 l2
  have f1 : ∀ t ∈ [h.B, h.off, h.ans], t ∈ subsL [h.B, h.off, h.ans, h.W] := fun t ht => subsL_in (by simp only [List.mem_cons, List.not_mem_nil, or_false] at ht ⊢; rcases ht with rfl | rfl | rfl <;> simp)
  have f1' : ∀ t ∈ [h.B, h.off, h.ans, h.W], t ∈ subsL [h.B, h.off, h.ans, h.W] := fun t ht => subsL_in ht
  have f2 : ∀ t ∈ [h.B, h.ch], t ∈ subsL [h.B, h.ch, h.A, h.W] := fun t ht => subsL_in (by simp only [List.mem_cons, List.not_mem_nil, or_false] at ht ⊢; rcases ht with rfl | rfl <;> simp)
  have f3 : ∀ t ∈ [h.B, h.ch, h.A], t ∈ subsL [h.B, h.ch, h.A, h.W] := fun t ht => subsL_in (by simp only [List.mem_cons, List.not_mem_nil, or_false] at ht ⊢; rcases ht with rfl | rfl | rfl <;> simp)
  have hw1 : h.W ∈ subsL [h.B, h.off, h.ans, h.W] := subsL_in (by simp)
  have hw2 : h.W ∈ subsL [h.B, h.ch, h.A, h.W] := subsL_in (by simp)
  have n9a := fun t ht (_ : t.kind = 9) => pub_subs m1 t ht
  have n9b := fun t ht (_ : t.kind = 9) => pub_subs m2 t ht
  obtain ⟨t1, e1⟩ := s144 (S := S) (x0 := .lst 3 true [h.B.cells, h.off.cells, h.ans.cells]) (frame := [h.B, h.off, h.ans]) (b := false) (isTs_lst (f := true) (l := [h.B, h.off, h.ans])) u1 f1 hw1 (by simp) n9a fun L1 L2 k1 k2 => Hd.t1 k k1 k2
  have e2 : call 129 [.lst 3 true [h.B.cells, h.off.cells, h.ans.cells], .agg (h.key 0).cells] S = some (.sc (.bool false), S) := s129x (isTs_lst (f := true) (l := [h.B, h.off, h.ans])) u1 f1 (by simp) q.base.1 fun L kL => mk_no (Hd.l1 k kL) (Hd.n1 k).2.2.2.2.2
  have e3 : call 129 [.lst 3 true [h.B.cells, h.off.cells, h.ans.cells], .agg h.W.cells] S = some (.sc (.bool false), S) := s129x (isTs_lst (f := true) (l := [h.B, h.off, h.ans])) u1 f1 (by simp) q.W.1 fun L kL => mk_no (Hd.l1 k kL) (Hd.n1 k).1
  obtain ⟨v1, S1, ap1, hO1⟩ := (own_lst (S0 := S) (sz := 3) (rs := []) hS).app (d := none) (rg := fun _ => none) (bytes := 48) (x := .lst 3 true ([h.B, h.off, h.ans].map T.cells)) (ys := [h.B, h.off, h.ans].map T.cells) (lst_rowsOf ..) (by simp) (by simp)
  have ap1' : ∀ d rg, opev (.append 3 48) d rg S [.lst 3 true [], .lst 3 true [h.B.cells, h.off.cells, h.ans.cells]] = some (v1, none, S1) := fun d rg => ap1
  obtain ⟨v2, S2, ap2, hO2, v2r, _, _⟩ := hO1.push (n := 3) (bytes := 48) (r := h.W.cells) (f := true) (d := none) (rg := fun _ => none) (by simp) (by omega)
  have ap2' : ∀ d rg, opev (.append 3 48) d rg S1 [v1, .lst 3 true [h.W.cells]] = some (v2, none, S2) := fun d rg => ap2
  have v1r := hO1.reg
  have hO2 : Own S S2 3 v2 ([h.B, h.off, h.ans, h.W].map T.cells) := hO2
  have e4 : call 129 [v2, .agg (h.key 0).cells] S2 = some (.sc (.bool false), S2) := s129x hO2.isTs u1 f1' (by simp) q.base.1 fun L kL => mk_no (Hd.l2 k kL) (Hd.n2 k).2
  obtain ⟨t2, e5⟩ := s144 (S := S2) (x0 := .lst 3 true [h.B.cells, h.ch.cells]) (frame := [h.B, h.ch]) (b := false) (isTs_lst (f := true) (l := [h.B, h.ch])) u2 f2 hw2 (by simp) n9b fun L1 L2 k1 k2 => Hd.t2 k k1 k2
  obtain ⟨t3, e6⟩ := s144 (S := S2) (x0 := .lst 3 true [h.B.cells, h.ch.cells, h.A.cells]) (frame := [h.B, h.ch, h.A]) (b := true) (isTs_lst (f := true) (l := [h.B, h.ch, h.A])) u2 f3 hw2 (by simp) n9b fun L1 L2 k1 k2 => Hd.t3 k k1 k2
  have e7 : call 129 [.lst 3 true [h.B.cells, h.ch.cells, h.A.cells], .agg h.W.cells] S2 = some (.sc (.bool false), S2) := s129x (isTs_lst (f := true) (l := [h.B, h.ch, h.A])) u2 f3 (by simp) q.W.1 fun L kL => mk_no (Hd.l5 k kL) (Hd.n3 k).2.2.2.1
  unfold pwB at p0 cW
  simp [f37, f37b, e146, e152', p0, cW, e145, e153, c6, c0, e154, resA, e1, e2, e3, ap1', ap2', v1r, v2r, e4, e148, e5, e6, e7]
end
end Abs
