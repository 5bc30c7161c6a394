/- The reference reads a cookie. -/
import Derived.Test.YtgpcbcbmhlgekaaDoorSr
import Derived.Test.YtgpcbcbmhlgekaaDoorLw
set_option linter.unusedVariables false
set_option linter.unusedSimpArgs false
set_option linter.unusedSectionVars false
namespace Abs
open Go

def rD (t : T) (l : ByteArray) : ByteArray := (restOf t l).getD ⟨#[]⟩
def rB (t : T) (l : ByteArray) : Bool := (restOf t l).isSome
def dnR (l : List T) : List ByteArray := l.map fun k => rD k ⟨#[100]⟩
def dbR (l : List T) : Bool := l.all fun k => rB k ⟨#[100]⟩
def numR (s : ByteArray) : Bool := decide (itoaB (numA s) = s)
def ckR (k1 k2 k3 k4 k5 : T) : Ck := ⟨rD k1 ⟨#[99]⟩, rD k2 ⟨#[110]⟩, dnR k3.kids, k4, numA (rD k5 ⟨#[117]⟩)⟩
def okR4 (k1 k2 k3 k4 k5 : T) : Bool := rB k1 ⟨#[99]⟩ && rB k2 ⟨#[110]⟩ && rB k5 ⟨#[117]⟩ && numR (rD k5 ⟨#[117]⟩) && dbR k3.kids && k4.fit
def headR (k0 k3 : T) (b : T) : Bool := decide (b.kind = 3) && decide (k0.kind = 1) && decide (k0.name = ⟨#[99, 111, 111, 107, 105, 101]⟩) && decide (k3.kind = 3)
theorem e317 {S : AS} {t : T} {l : ByteArray} (hl : l.size = 1) : call 317 [.agg t.cells, .sc (.string l)] S = some (.tup [.sc (.string (rD t l)), .sc (.bool (rB t l))], S) := s317 hl
theorem dnR_take {l : List T} {i : Nat} {k : T} (h : l[i]? = some k) : sRow (dnR (l.take (i + 1))) = sRow (dnR (l.take i)) ++ [[.sc (.string (rD k ⟨#[100]⟩))]] := by
  rw [List.take_add_one, h]; simp [dnR, sRow]
theorem dbR_take {l : List T} {i : Nat} {k : T} (h : l[i]? = some k) : dbR (l.take (i + 1)) = (dbR (l.take i) && rB k ⟨#[100]⟩) := by
  rw [List.take_add_one, h]; simp [dbR]
theorem rD_le {t : T} {l : ByteArray} : (rD t l).size ≤ t.name.size := by
  unfold rD restOf
  split
  · cases h : cutB t.name l with
    | none => exact Nat.zero_le _
    | some r => exact cutB_le h
  · exact Nat.zero_le _
section
variable {S : AS}
theorem s220_head {b k0 k1 k2 k3 k4 k5 : T} (hb : b.kids = [k0, k1, k2, k3, k4, k5]) (hh : headR k0 k3 b = false) : call 220 [.agg b.cells] S = some (.tup [.agg ckZero.cells, .b false], S) := by
  rw [call_calm a220 rfl (by simp) rfl]
  have h6 : b.kids.length = 6 := by rw [hb]; rfl
  have l0 : pev (.iaddr 3) [lstT b.kids, .i 0] = some (.iptr k0.cells) := lstT_at (i := 0) (by rw [hb]; rfl)
  have l3 : pev (.iaddr 3) [lstT b.kids, .i 3] = some (.iptr k3.cells) := lstT_at (i := 3) (by rw [hb]; rfl)
  have fin : calmR S (some (.tup [.agg zC, .b false], S)) = some (.tup [.agg ckZero.cells, .b false], S) := by
    simp [ckZero, Ck.cells, tZero, T.kind, T.name, T.kids, lstS, lstT, lstN, sRow, AV.pure]
  unfold headR at hh
  by_cases c1 : b.kind = 3
  · by_cases c2 : k0.kind = 1
    · by_cases c3 : k0.name = ⟨#[99, 111, 111, 107, 105, 101]⟩
      · by_cases c4 : k3.kind = 3
        · simp [c1, c2, c3, c4] at hh
        · simp [-calmR_some, f220, f220b, eq_true c1, h6, l0, l3, eq_true c2, eq_true c3, c4]
          simp [ckZero, Ck.cells, tZero, T.kind, T.name, T.kids, lstS, lstT, lstN, sRow, AV.pure]
      · simp [-calmR_some, f220, f220b, eq_true c1, h6, l0, l3, eq_true c2, c3]
        simp [ckZero, Ck.cells, tZero, T.kind, T.name, T.kids, lstS, lstT, lstN, sRow, AV.pure]
    · simp [-calmR_some, f220, f220b, eq_true c1, h6, l0, l3, c2]
      simp [ckZero, Ck.cells, tZero, T.kind, T.name, T.kids, lstS, lstT, lstN, sRow, AV.pure]
  · simp [-calmR_some, f220, f220b, c1]
    simp [ckZero, Ck.cells, tZero, T.kind, T.name, T.kids, lstS, lstT, lstN, sRow, AV.pure]
theorem s220_len {b : T} (hl : b.kids.length ≤ 4611686018427387904) (h : b.kids.length ≠ 6) : call 220 [.agg b.cells] S = some (.tup [.agg ckZero.cells, .b false], S) := by
  rw [call_calm a220 rfl (by simp) rfl]
  have h6' : ¬ (b.kids.length : Int) = 6 := by omega
  by_cases c1 : b.kind = 3
  · simp [-calmR_some, f220, f220b, eq_true c1, h, h6']
    simp [ckZero, Ck.cells, tZero, T.kind, T.name, T.kids, lstS, lstT, lstN, sRow, AV.pure]
  · simp [-calmR_some, f220, f220b, c1]
    simp [ckZero, Ck.cells, tZero, T.kind, T.name, T.kids, lstS, lstT, lstN, sRow, AV.pure]

set_option maxHeartbeats 8000000 in
set_option maxRecDepth 100000 in
theorem s220_ok {b k0 k1 k2 k3 k4 k5 : T} (hb : b.kids = [k0, k1, k2, k3, k4, k5]) (hh : headR k0 k3 b = true) (hl : k3.kids.length * 16 ≤ 140737488355328) (h5 : k5.name.size ≤ 4611686018427387904) (h4 : k4.bulk ≤ 1099511627776) :
    call 220 [.agg b.cells] S = some (.tup [.agg (ckR k1 k2 k3 k4 k5).cells, .sc (.bool (okR4 k1 k2 k3 k4 k5))], S) := by
  rw [call_calm a220 rfl (by simp) rfl]
  have h6 : b.kids.length = 6 := by rw [hb]; rfl
  have l0 : pev (.iaddr 3) [lstT b.kids, .i 0] = some (.iptr k0.cells) := lstT_at (i := 0) (by rw [hb]; rfl)
  have l1 : pev (.iaddr 3) [lstT b.kids, .i 1] = some (.iptr k1.cells) := lstT_at (i := 1) (by rw [hb]; rfl)
  have l2 : pev (.iaddr 3) [lstT b.kids, .i 2] = some (.iptr k2.cells) := lstT_at (i := 2) (by rw [hb]; rfl)
  have l3 : pev (.iaddr 3) [lstT b.kids, .i 3] = some (.iptr k3.cells) := lstT_at (i := 3) (by rw [hb]; rfl)
  have l4 : pev (.iaddr 3) [lstT b.kids, .i 4] = some (.iptr k4.cells) := lstT_at (i := 4) (by rw [hb]; rfl)
  have l5 : pev (.iaddr 3) [lstT b.kids, .i 5] = some (.iptr k5.cells) := lstT_at (i := 5) (by rw [hb]; rfl)
  have r1 := fun S => @e317 S k1 ⟨#[99]⟩ rfl
  have r2 := fun S => @e317 S k2 ⟨#[110]⟩ rfl
  have r5 := fun S => @e317 S k5 ⟨#[117]⟩ rfl
  have rn := fun S => @s318 S (rD k5 ⟨#[117]⟩) (Nat.le_trans rD_le h5)
  have rf := fun S => @s211 S k4 h4
  unfold headR at hh
  simp only [Bool.and_eq_true, decide_eq_true_eq] at hh
  obtain ⟨⟨⟨c1, c2⟩, c3⟩, c4⟩ := hh
  have hn : decide (itoaB (numA (rD k5 ⟨#[117]⟩)) = rD k5 ⟨#[117]⟩) = numR (rD k5 ⟨#[117]⟩) := rfl
  rw [hn] at rn
  obtain ⟨q1, hq1⟩ : ∃ q, q = rB k1 ⟨#[99]⟩ := ⟨_, rfl⟩
  obtain ⟨q2, hq2⟩ : ∃ q, q = rB k2 ⟨#[110]⟩ := ⟨_, rfl⟩
  obtain ⟨q5, hq5⟩ : ∃ q, q = rB k5 ⟨#[117]⟩ := ⟨_, rfl⟩
  obtain ⟨qn, hqn⟩ : ∃ q, q = numR (rD k5 ⟨#[117]⟩) := ⟨_, rfl⟩
  obtain ⟨p0, hp0⟩ : ∃ p, p = (q1 && q2 && q5 && qn) := ⟨_, rfl⟩
  have key : ∀ (e : Nat → AV) (rg : Nat → Option (List AV)) (S1 : AS) (ks : List Kn), S1 = ⟨S.heap, S.n, S.n⟩ → e 1 = .reg 1 0 → rg 1 = some b.cells → e 2 = .reg 2 0 → rg 2 = some zC → e 4 = .reg 4 0 → rg 4 = some zC →
      e 5 = .sc (.string (rD k1 ⟨#[99]⟩)) → e 7 = .sc (.string (rD k2 ⟨#[110]⟩)) → e 11 = .sc (.int .i64 (numA (rD k5 ⟨#[117]⟩))) → e 13 = .sc (.bool p0) → e 14 = .i 0 →
      (∀ (e' : Nat → AV) (rg' : Nat → Option (List AV)) (S' : AS) (v : AV), e' 1 = .reg 1 0 → rg' 1 = some b.cells → e' 2 = .reg 2 0 → rg' 2 = some zC → e' 4 = .reg 4 0 → rg' 4 = some [.s ⟨#[]⟩, .s ⟨#[]⟩, v, .i 0, .s ⟨#[]⟩, .lst 0 true [], .i 0] →
        e' 5 = e 5 → e' 7 = e 7 → e' 11 = e 11 → e' 13 = .sc (.bool (p0 && dbR k3.kids)) → Own ⟨S.heap, S.n, S.n⟩ S' 1 v (sRow (dnR k3.kids)) →
        calmR S (fin [.cell 2 7 true, .tmp 3] (unw AA (some (.exit 0, st 145 e' rg' S')) ks)) = some (.tup [.agg (ckR k1 k2 k3 k4 k5).cells, .sc (.bool (okR4 k1 k2 k3 k4 k5))], S)) →
      calmR S (fin [.cell 2 7 true, .tmp 3] (exec AA (.loop [15, 16, 92, 93, 94, 95, 96, 97, 98, 99, 100, 101, 102, 103, 104, 105, 106, 107, 108, 109, 110, 111, 112, 113, 114, 115, 116, 117, 118, 119, 120, 121, 122, 123] [] f220_l0) (st 145 e rg S1) ks)) = some (.tup [.agg (ckR k1 k2 k3 k4 k5).cells, .sc (.bool (okR4 k1 k2 k3 k4 k5))], S) := by
    intro e rg S1 ks hS1 g1 rg1 g2 rg2 g4 rg4 g5 g7 g11 g13 g14 hex
    refine loop_gen (α := Nat) (R := fun _ r => calmR S r = some (.tup [.agg (ckR k1 k2 k3 k4 k5).cells, .sc (.bool (okR4 k1 k2 k3 k4 k5))], S)) (fun i e' rg' S' => i ≤ k3.kids.length ∧ e' 1 = .reg 1 0 ∧ rg' 1 = some b.cells ∧ e' 2 = .reg 2 0 ∧ rg' 2 = some zC ∧ e' 4 = .reg 4 0 ∧ e' 5 = e 5 ∧ e' 7 = e 7 ∧ e' 11 = e 11 ∧ e' 13 = .sc (.bool (p0 && dbR (k3.kids.take i))) ∧ e' 14 = .sc (.int .i64 (i : Nat)) ∧ ∃ v, rg' 4 = some [.s ⟨#[]⟩, .s ⟨#[]⟩, v, .i 0, .s ⟨#[]⟩, .lst 0 true [], .i 0] ∧ Own ⟨S.heap, S.n, S.n⟩ S' 1 v (sRow (dnR (k3.kids.take i)))) (fun i => k3.kids.length - i) ?_ 0 _ _ _ ?_
    rotate_left
    · refine ⟨by omega, g1, rg1, g2, rg2, g4, rfl, rfl, rfl, by rw [g13]; simp [dbR], g14, .lst 0 true [], rg4, ?_⟩
      rw [hS1]; simp [dnR, sRow]; exact own_nil (Nat.le_refl _)
    intro kk hkk i e' rg' S' ⟨hi, g1, rg1, g2, rg2, g4, f5, f7, f11, g13, g14, v, rg4, hO⟩ ih
    by_cases hc : i < k3.kids.length
    · obtain ⟨u, hu⟩ := get_of_lt hc
      have w2 : IntKind.i64.wrap ((i : Int) + 1) = ((i + 1 : Nat) : Int) := w64 (by omega)
      have hil : (k3.kids.take i).length = i := by rw [List.length_take]; omega
      have ru := fun S => @e317 S u ⟨#[100]⟩ rfl
      obtain ⟨v', S'', ha, hO', z1, z2, z3⟩ := hO.push (n := i) (bytes := 16) (r := [.sc (.string (rD u ⟨#[100]⟩))]) (f := true) (d := some 122) (rg := rg') (by simp [dnR]; omega) (by omega)
      have hvr := hO.reg
      rw [← dnR_take hu] at hO'
      have hdb := dbR_take hu
      have e13' : (p0 && dbR (k3.kids.take i) && rB u ⟨#[100]⟩) = (p0 && dbR (k3.kids.take (i + 1))) := by rw [hdb, Bool.and_assoc]
      cases hb13 : (p0 && dbR (k3.kids.take i)) with
      | false =>
        rw [hb13] at g13 e13'
        simp only [Bool.false_and] at e13'
        simp [-calmR_some, f220_l0, g1, rg1, g2, g4, rg4, g13, g14, hc, l3, lstT_at hu, ru, hvr, fillR]
        rw [ha]
        simp [-calmR_some, z1, z2, z3, w2, g4, rg4, g14]
        refine ih (i + 1) _ _ _ (by omega) (fun _ h => h) ?_
        exact ⟨by omega, by simp [g1], by simp [rg1], by simp [g2], by simp [rg2], by simp [g4], by simp [f5], by simp [f7], by simp [f11], by simp [← e13'], by simp, v', by simp, hO'⟩
      | true =>
        rw [hb13] at g13 e13'
        simp only [Bool.true_and] at e13'
        simp [-calmR_some, f220_l0, g1, rg1, g2, g4, rg4, g13, g14, hc, l3, lstT_at hu, ru, hvr, fillR]
        rw [ha]
        simp [-calmR_some, z1, z2, z3, w2, g4, rg4, g14]
        refine ih (i + 1) _ _ _ (by omega) (fun _ h => h) ?_
        exact ⟨by omega, by simp [g1], by simp [rg1], by simp [g2], by simp [rg2], by simp [g4], by simp [f5], by simp [f7], by simp [f11], by simp [← e13'], by simp, v', by simp, hO'⟩
    · have hi' : i = k3.kids.length := by omega
      subst hi'
      rw [List.take_length] at hO g13
      simp [-calmR_some, f220_l0, g1, rg1, g2, g4, g14, l3]
      rw [hkk]
      exact hex _ _ _ v (by simp [g1]) rg1 (by simp [g2]) rg2 (by simp [g4]) rg4 (by simp [f5]) (by simp [f7]) (by simp [f11]) (by simp [g13]) hO
  have done : ∀ (e' : Nat → AV) (rg' : Nat → Option (List AV)) (S' : AS) (v : AV), e' 1 = .reg 1 0 → rg' 1 = some b.cells → e' 2 = .reg 2 0 → rg' 2 = some zC → e' 4 = .reg 4 0 → rg' 4 = some [.s ⟨#[]⟩, .s ⟨#[]⟩, v, .i 0, .s ⟨#[]⟩, .lst 0 true [], .i 0] →
        e' 5 = .sc (.string (rD k1 ⟨#[99]⟩)) → e' 7 = .sc (.string (rD k2 ⟨#[110]⟩)) → e' 11 = .sc (.int .i64 (numA (rD k5 ⟨#[117]⟩))) → e' 13 = .sc (.bool (p0 && dbR k3.kids)) → Own ⟨S.heap, S.n, S.n⟩ S' 1 v (sRow (dnR k3.kids)) →
        calmR S (fin [.cell 2 7 true, .tmp 3] (exec AA (.seq (.ops [
    ⟨some 124, .pur (.faddr 2), [.t 1], none⟩,
    ⟨some 125, .ld (some 1) 1 false, [.t 124], none⟩,
    ⟨some 126, .pur (.iaddr 3), [.t 125, .k (.i 4)], none⟩,
    ⟨some 127, .ld none 3 true, [.t 126], none⟩,
    ⟨some 128, .call 211, [.t 127], none⟩,
    ⟨some 17, .pur .mov, [.t 128], none⟩]) <|
  .seq (.ops [
    ⟨some 129, .pur .mov, [.t 5], none⟩,
    ⟨some 130, .pur (.faddr 0), [.t 4], none⟩,
    ⟨none, .st (some 4) 1, [.t 130, .t 129], none⟩]) <|
  .seq (.ops [
    ⟨some 131, .pur .mov, [.t 7], none⟩,
    ⟨some 132, .pur (.faddr 1), [.t 4], none⟩,
    ⟨none, .st (some 4) 1, [.t 132, .t 131], none⟩]) <|
  .seq (.ops [
    ⟨some 133, .pur .mov, [.t 11], none⟩,
    ⟨some 134, .pur (.faddr 6), [.t 4], none⟩,
    ⟨none, .st (some 4) 1, [.t 134, .t 133], none⟩]) <|
  .seq (.ops [
    ⟨some 135, .pur (.faddr 2), [.t 1], none⟩,
    ⟨some 136, .ld (some 1) 1 false, [.t 135], none⟩,
    ⟨some 137, .pur (.iaddr 3), [.t 136, .k (.i 4)], none⟩,
    ⟨some 138, .ld none 3 true, [.t 137], none⟩,
    ⟨some 139, .pur (.faddr 3), [.t 4], none⟩,
    ⟨none, .st (some 4) 3, [.t 139, .t 138], none⟩]) <|
  .seq (.ops [
    ⟨some 140, .ld (some 4) 7 true, [.t 4], none⟩,
    ⟨some 141, .pur .mov, [.t 13], none⟩,
    ⟨some 142, .pur .mov, [.t 141], none⟩,
    ⟨some 143, .pur .mov, [.t 17], some (142, true)⟩,
    ⟨some 144, .pur .pick, [.t 142, .t 143, .k (.b false)], none⟩,
    ⟨none, .st (some 2) 7, [.t 2, .t 140], none⟩,
    ⟨some 3, .pur .mov, [.t 144], none⟩]) .ret) (st 145 e' rg' S') [])) = some (.tup [.agg (ckR k1 k2 k3 k4 k5).cells, .sc (.bool (okR4 k1 k2 k3 k4 k5))], S) := by
    intro e' rg' S' v g1 rg1 g2 rg2 g4 rg4 g5 g7 g11 g13 hO
    have hvr := hO.reg
    have hvc := hO.cell
    have hfz := hO.frzS (b := S.n) (d := 1) (Nat.le_refl _)
    have hok : okR4 k1 k2 k3 k4 k5 = (p0 && dbR k3.kids && k4.fit) := by
      unfold okR4; rw [hp0, hq1, hq2, hq5, hqn]
    rw [hok]
    have hcells : (ckR k1 k2 k3 k4 k5).cells = [.sc (.string (rD k1 ⟨#[99]⟩)), .sc (.string (rD k2 ⟨#[110]⟩)), lstS (dnR k3.kids)] ++ k4.cells ++ [.sc (.int .i64 (numA (rD k5 ⟨#[117]⟩)))] := by rw [cells_T k4]; rfl
    rw [hcells]
    cases hb13 : (p0 && dbR k3.kids) with
    | false =>
      rw [hb13] at g13
      simp [-calmR_some, g1, rg1, g2, rg2, g4, rg4, g5, g7, g11, g13, l4, rf, hvc, hvr]
      rw [cells_T k4]
      simp [g2, hfz, AV.pure]
    | true =>
      rw [hb13] at g13
      simp [-calmR_some, g1, rg1, g2, rg2, g4, rg4, g5, g7, g11, g13, l4, rf, hvc, hvr]
      rw [cells_T k4]
      simp [g2, hfz, AV.pure]
  have hfin : ∀ (v : Bool), v = p0 → True := fun _ _ => trivial
  simp only [f220]
  rcases q1 with _ | _ <;> rcases q2 with _ | _ <;> rcases q5 with _ | _ <;> rcases qn with _ | _
  all_goals
    rw [← hq1] at r1
    rw [← hq2] at r2
    rw [← hq5] at r5
    rw [← hqn] at rn
    simp [-calmR_some, f220b, eq_true c1, h6, l0, l1, l2, l3, l5, eq_true c2, eq_true c3, eq_true c4, r1, r2, r5, rn]
    refine key _ _ _ _ rfl (by simp) (by simp) (by simp) (by simp [zC]) (by simp) (by simp [zC]) (by simp) (by simp) (by simp) (by simp [hp0]) (by simp) ?_
    intro e' rg' S' v g1 rg1 g2 rg2 g4 rg4 g5 g7 g11 g13 hO
    simp at g5 g7 g11
    simpa using done e' rg' S' v g1 rg1 g2 rg2 g4 rg4 g5 g7 g11 g13 hO
end
end Abs

namespace Abs
open Go

theorem rshp_one {t : T} (h : t.rshp = true) : knd t.kind = true ∧ (nmd t.kind = true ↔ t.name ≠ ⟨#[]⟩) ∧ (kdn t.kind < 0 ∨ (t.kids.length : Int) = kdn t.kind) := by
  rw [t.rshp_def, Bool.and_eq_true] at h
  exact T.one_iff.1 h.1
theorem is_data {t : T} (h : t.rshp = true) (h1 : t.kind = 1) : t = tData t.name := by
  obtain ⟨_, _, h3⟩ := rshp_one h
  have hk : kdn t.kind = 0 := by rw [h1]; rfl
  have : t.kids.length = 0 := by omega
  obtain ⟨k, n, l⟩ := t
  have h1 : k = 1 := h1
  have hl : l = [] := List.length_eq_zero_iff.1 this
  subst h1; subst hl; rfl
theorem no_name {t : T} (h : t.rshp = true) (h1 : nmd t.kind = false) : t.name = ⟨#[]⟩ := by
  obtain ⟨_, h2, _⟩ := rshp_one h
  by_cases hn : t.name = ⟨#[]⟩
  · exact hn
  · have := h2.2 hn; rw [h1] at this; cases this
theorem is_pair {t : T} (h : t.rshp = true) (h1 : t.kind = 3) : t = tPair t.kids := by
  have hn := no_name h (by rw [h1]; rfl)
  obtain ⟨k, n, l⟩ := t
  have h1 : k = 3 := h1
  have hn : n = ⟨#[]⟩ := hn
  subst h1; subst hn; rfl
theorem restOf_some {t : T} {l r : ByteArray} (h : restOf t l = some r) : t.kind = 1 ∧ t.name = l ++ r := by
  unfold restOf at h
  split at h
  · rename_i h1; exact ⟨h1, cutB_some.1 h⟩
  · cases h
theorem rest_data {l r : ByteArray} : restOf (tData (l ++ r)) l = some r := by
  unfold restOf
  rw [if_pos (show (tData (l ++ r)).kind = 1 from rfl)]; exact cutB_app
theorem rB_some {t : T} {l : ByteArray} (h : rB t l = true) : t.kind = 1 ∧ t.name = l ++ rD t l := by
  unfold rB at h
  obtain ⟨r, hr⟩ := Option.isSome_iff_exists.1 h
  have := restOf_some hr
  unfold rD
  rw [hr]; exact this
theorem rB_data {t : T} {l : ByteArray} (ht : t.rshp = true) (h : rB t l = true) : t = tData (l ++ rD t l) := by
  obtain ⟨h1, h2⟩ := rB_some h
  rw [← h2]; exact is_data ht h1
theorem rD_data {l r : ByteArray} : rD (tData (l ++ r)) l = r := by unfold rD; rw [rest_data]; rfl
theorem rB_data' {l r : ByteArray} : rB (tData (l ++ r)) l = true := by unfold rB; rw [rest_data]; rfl
theorem dnR_doneT {l : List ByteArray} : dnR (doneT l) = l := by
  unfold dnR doneT
  rw [List.map_map]
  have : ((fun k : T => rD k ⟨#[100]⟩) ∘ fun s => tData (⟨#[100]⟩ ++ s)) = id := by
    funext s; exact rD_data
  rw [this, List.map_id]
theorem dbR_doneT {l : List ByteArray} : dbR (doneT l) = true := by
  unfold dbR doneT
  rw [List.all_map, List.all_eq_true]
  intro s _; exact rB_data'
theorem doneT_dnR : ∀ {l : List T}, (∀ t ∈ l, t.rshp = true) → dbR l = true → doneT (dnR l) = l
  | [], _, _ => rfl
  | t :: l, h, hd => by
    unfold dbR at hd
    rw [List.all_cons, Bool.and_eq_true] at hd
    have ih := doneT_dnR (l := l) (fun x hx => h x (by simp [hx])) hd.2
    have e := rB_data (h t (by simp)) hd.1
    show tData (⟨#[100]⟩ ++ rD t ⟨#[100]⟩) :: doneT (dnR l) = t :: l
    rw [ih, ← e]
theorem ckR_body {c : Ck} (h : inI c.upto) : ckR (tData (⟨#[99]⟩ ++ c.client)) (tData (⟨#[110]⟩ ++ c.nonce)) (tPair (doneT c.done)) c.secret (tData (⟨#[117]⟩ ++ itoaB c.upto)) = c := by
  unfold ckR
  have e4 : dnR (tPair (doneT c.done)).kids = c.done := dnR_doneT
  rw [rD_data, rD_data, rD_data, e4, numA_itoa h]
def okAll (key b k0 k1 k2 k3 k4 k5 : T) : Bool := key.fit && (headR k0 k3 b && okR4 k1 k2 k3 k4 k5)
theorem ok_seal {key t b k0 k1 k2 k3 k4 k5 : T} (hr : t.rshp = true) (h4 : t.kind = 4) (hk : t.kids = [key, b]) (hb : b.kids = [k0, k1, k2, k3, k4, k5]) :
    (sealT key (readC k1 k2 k3 k4 k5)).same t = okAll key b k0 k1 k2 k3 k4 k5 ∧ (okAll key b k0 k1 k2 k3 k4 k5 = true → readC k1 k2 k3 k4 k5 = ckR k1 k2 k3 k4 k5) := by
  have hbm : b.rshp = true := T.rshp_kid hr (by rw [hk]; simp)
  have kb : ∀ u ∈ [k0, k1, k2, k3, k4, k5], u.rshp = true := fun u hu => T.rshp_kid hbm (by rw [hb]; exact hu)
  have fwd : okAll key b k0 k1 k2 k3 k4 k5 = true → readC k1 k2 k3 k4 k5 = ckR k1 k2 k3 k4 k5 ∧ sealT key (ckR k1 k2 k3 k4 k5) = t := by
    intro h
    unfold okAll headR okR4 at h
    simp only [Bool.and_eq_true, decide_eq_true_eq] at h
    obtain ⟨hf, ⟨⟨⟨c1, c2⟩, c3⟩, c4⟩, ⟨⟨⟨⟨q1, q2⟩, q5⟩, qn⟩, qd⟩, q4⟩ := h
    have e0 : k0 = tData ⟨#[99, 111, 111, 107, 105, 101]⟩ := by rw [← c3]; exact is_data (kb k0 (by simp)) c2
    have e1 := rB_data (kb k1 (by simp)) q1
    have e2 := rB_data (kb k2 (by simp)) q2
    have e5 := rB_data (kb k5 (by simp)) q5
    have e3 : k3 = tPair (doneT (dnR k3.kids)) := by
      rw [doneT_dnR (fun u hu => T.rshp_kid (kb k3 (by simp)) hu) qd]
      exact is_pair (kb k3 (by simp)) c4
    unfold numR at qn
    rw [decide_eq_true_eq] at qn
    have hin : inI (ckR k1 k2 k3 k4 k5).upto := numA_in
    have hbody : bodyT (ckR k1 k2 k3 k4 k5) = [k0, k1, k2, k3, k4, k5] := by
      show [_, _, _, _, _, _] = _
      show [tData ⟨#[99, 111, 111, 107, 105, 101]⟩, tData (⟨#[99]⟩ ++ rD k1 ⟨#[99]⟩), tData (⟨#[110]⟩ ++ rD k2 ⟨#[110]⟩), tPair (doneT (dnR k3.kids)), k4, tData (⟨#[117]⟩ ++ itoaB (numA (rD k5 ⟨#[117]⟩)))] = _
      rw [qn, ← e0, ← e1, ← e2, ← e3, ← e5]
    have hbp : b = tPair (bodyT (ckR k1 k2 k3 k4 k5)) := by rw [hbody, ← hb]; exact is_pair hbm c1
    have ht : t = tEnc key (tPair (bodyT (ckR k1 k2 k3 k4 k5))) := by
      rw [← hbp]
      have hn := no_name hr (by rw [h4]; rfl)
      obtain ⟨tk, tn, tl⟩ := t
      have h4 : tk = 4 := h4
      have hn : tn = ⟨#[]⟩ := hn
      have hk : tl = [key, b] := hk
      subst h4; subst hn; subst hk; rfl
    refine ⟨?_, ?_⟩
    · have := readC_body hin
      have hb2 : [tData ⟨#[99, 111, 111, 107, 105, 101]⟩, tData (⟨#[99]⟩ ++ (ckR k1 k2 k3 k4 k5).client), tData (⟨#[110]⟩ ++ (ckR k1 k2 k3 k4 k5).nonce), tPair (doneT (ckR k1 k2 k3 k4 k5).done), (ckR k1 k2 k3 k4 k5).secret, tData (⟨#[117]⟩ ++ itoaB (ckR k1 k2 k3 k4 k5).upto)] = [k0, k1, k2, k3, k4, k5] := hbody
      simp only [List.cons.injEq, and_true] at hb2
      obtain ⟨_, b1, b2, b3, b4, b5⟩ := hb2
      rw [b1, b2, b3, b4, b5] at this
      exact this
    · rw [sealT_fit hf q4]; exact ht.symm
  refine ⟨?_, fun h => (fwd h).1⟩
  rw [Bool.eq_iff_iff]
  constructor
  · intro h
    have h := T.same_iff.1 h
    have hfit : key.fit = true ∧ k4.fit = true := by
      have hkd := congrArg T.kind h
      rw [seal_kind, h4] at hkd
      by_cases hf : (key.fit && (readC k1 k2 k3 k4 k5).secret.fit) = true
      · rw [Bool.and_eq_true] at hf; exact hf
      · rw [if_neg hf] at hkd; cases hkd
    have hse := sealT_fit (c := readC k1 k2 k3 k4 k5) hfit.1 hfit.2
    rw [hse] at h
    have hkk := congrArg T.kids h
    rw [hk] at hkk
    have hkk : [key, tPair (bodyT (readC k1 k2 k3 k4 k5))] = [key, b] := hkk
    simp only [List.cons.injEq, true_and, and_true] at hkk
    have hbk := congrArg T.kids hkk
    rw [hb] at hbk
    have hin : inI (readC k1 k2 k3 k4 k5).upto := atoN_in
    generalize readC k1 k2 k3 k4 k5 = c at *
    have hbk : [tData ⟨#[99, 111, 111, 107, 105, 101]⟩, tData (⟨#[99]⟩ ++ c.client), tData (⟨#[110]⟩ ++ c.nonce), tPair (doneT c.done), c.secret, tData (⟨#[117]⟩ ++ itoaB c.upto)] = [k0, k1, k2, k3, k4, k5] := hbk
    simp only [List.cons.injEq, and_true] at hbk
    obtain ⟨b0, b1, b2, b3, b4, b5⟩ := hbk
    unfold okAll headR okR4
    rw [← b0, ← b1, ← b2, ← b3, ← b5, ← hkk, hfit.1, hfit.2, rB_data', rB_data', rB_data', rD_data]
    have e3 : dbR (tPair (doneT c.done)).kids = true := dbR_doneT
    have en : numR (itoaB c.upto) = true := by unfold numR; rw [numA_itoa hin]; simp
    rw [e3, en]
    rfl
  · intro h
    obtain ⟨h1, h2⟩ := fwd h
    rw [h1, h2, T.same_self]
end Abs

namespace Abs
open Go

theorem open_len {key t b : T} {now : Int} (hk : t.kids = [key, b]) (h6 : b.kids.length ≠ 6) : openP key t now = (ckZero, 2) := by
  unfold openP
  split
  · rw [hk]
    simp only [T.same_self, if_true]
    split
    · rename_i heq; rw [heq] at h6; simp at h6
    · rfl
  · rfl
section
variable {S : AS}
set_option maxHeartbeats 8000000 in
set_option maxRecDepth 100000 in
theorem s113 {key t : T} {now : Int} (hkb : key.bulk ≤ 1099511627776) (htb : t.bulk ≤ 1099511627776) :
    call 113 [.agg key.cells, .agg t.cells, .sc (.int .i64 now)] S = some (.tup [.agg (openP key t now).1.cells, .sc (.int .i64 (openP key t now).2)], S) := by
  rw [call_calm a113 rfl (by simp) rfl]
  have htf := T.fits_bulk htb
  have e219 := fun S => @s219 S t htb
  unfold openP
  cases hr : t.right with
  | false =>
    rw [hr] at e219
    simp [-calmR_some, f113, f113b, e219]
    exact calm_zC
  | true =>
    rw [hr] at e219
    by_cases h4 : t.kind = 4
    · have hrs := (T.right_iff.1 hr).1
      obtain ⟨k0, b, hab⟩ := T.enc_kids hrs h4
      have m0 : k0 ∈ t.kids := by rw [hab]; simp
      have mb : b ∈ t.kids := by rw [hab]; simp
      have l0 : pev (.iaddr 3) [lstT t.kids, .i 0] = some (.iptr k0.cells) := lstT_at (i := 0) (by rw [hab]; rfl)
      have l1 : pev (.iaddr 3) [lstT t.kids, .i 1] = some (.iptr b.cells) := lstT_at (i := 1) (by rw [hab]; rfl)
      have f0 : k0.fits := (T.fits_kids htf).2 k0 m0
      have bfits := (T.fits_kids htf).2 b mb
      have bbulk : b.bulk ≤ 1099511627776 := by have := T.bulk_kid mb; omega
      have e114 := fun S => @s114 k0 key S f0
      have e211 := fun S => @s211 S key hkb
      cases hs : k0.same key with
      | false =>
        rw [hs] at e114
        simp [-calmR_some, f113, f113b, e219, eq_true h4, l0, e114, hs, hab]
        exact calm_zC
      | true =>
        rw [hs] at e114
        have hk0 := T.same_iff.1 hs
        subst hk0
        by_cases h6 : b.kids.length = 6
        · obtain ⟨c0, k1, k2, k3, k4, k5, hb⟩ : ∃ u0 u1 u2 u3 u4 u5, b.kids = [u0, u1, u2, u3, u4, u5] := by
            match hl : b.kids, h6 with
            | [u0, u1, u2, u3, u4, u5], _ => exact ⟨u0, u1, u2, u3, u4, u5, rfl⟩
          obtain ⟨o1, o2⟩ := ok_seal hrs h4 hab hb
          have kbu : ∀ u ∈ b.kids, u.bulk + 4 ≤ b.bulk := fun u hu => T.bulk_kid hu
          have b3 := kbu k3 (by rw [hb]; simp)
          have b4 := kbu k4 (by rw [hb]; simp)
          have b5 := kbu k5 (by rw [hb]; simp)
          have len3 := @T.bulk_len k3
          have nm5 := @T.bulk_name k5
          rw [hab]
          simp only [Bool.true_and, h4, decide_true, if_true, hs, hb, o1]
          unfold okAll at o2 ⊢
          cases hf : k0.fit with
          | false =>
            rw [hf] at e211
            obtain ⟨C, q, e220⟩ : ∃ C q, ∀ S, call 220 [.agg b.cells] S = some (.tup [.agg (Ck.cells C), .sc (.bool q)], S) := by
              cases hh : headR c0 k3 b with
              | false => exact ⟨_, _, fun S => s220_head hb hh⟩
              | true => exact ⟨_, _, fun S => s220_ok hb hh (by omega) (by omega) (by omega)⟩
            simp [-calmR_some, f113, f113b, e219, eq_true h4, l0, l1, e114, e211, e220]
            exact calm_zC
          | true =>
            rw [hf] at e211 o2
            cases hh : headR c0 k3 b with
            | false =>
              have e220 := fun S => @s220_head S b c0 k1 k2 k3 k4 k5 hb hh
              simp [-calmR_some, f113, f113b, e219, eq_true h4, l0, l1, e114, e211, e220]
              exact calm_zC
            | true =>
              have e220 := fun S => @s220_ok S b c0 k1 k2 k3 k4 k5 hb hh (by omega) (by omega) (by omega)
              rw [hh] at o2
              cases hq : okR4 k1 k2 k3 k4 k5 with
              | false =>
                rw [hq] at e220
                simp [-calmR_some, f113, f113b, e219, eq_true h4, l0, l1, e114, e211, e220]
                exact calm_zC
              | true =>
                rw [hq] at e220 o2
                rw [o2 rfl]
                generalize ckR k1 k2 k3 k4 k5 = C at *
                by_cases hn : C.upto < now
                · simp [-calmR_some, f113, f113b, e219, eq_true h4, l0, l1, e114, e211, e220, hn]
                  exact calm_zC
                · simp [f113, f113b, e219, eq_true h4, l0, l1, e114, e211, e220, hn, AV.pure]
        · have h6' : ¬ (b.kids.length : Int) = 6 := by omega
          have e220 := fun S => @s220_len S b (T.fits_kids bfits).1 h6
          have hz := open_len (now := now) hab h6
          unfold openP at hz
          rw [hr] at hz
          rw [hz]
          cases hf : k0.fit with
          | false =>
            rw [hf] at e211
            simp [-calmR_some, f113, f113b, e219, eq_true h4, l0, l1, e114, e211, e220]
            exact calm_zC
          | true =>
            rw [hf] at e211
            simp [-calmR_some, f113, f113b, e219, eq_true h4, l0, l1, e114, e211, e220]
            exact calm_zC
    · simp [-calmR_some, f113, f113b, e219, h4]
      exact calm_zC
end
end Abs

namespace Abs
open Go

theorem open_fits {key t : T} {now : Int} (h : t.bulk ≤ 1099511627776) : (openP key t now).1.secret.fits ∧ (openP key t now).1.done.length ≤ 4611686018427387904 := by
  have hz : ckZero.secret.fits ∧ ckZero.done.length ≤ 4611686018427387904 := ⟨⟨by simp, trivial⟩, by show 0 ≤ _; omega⟩
  unfold openP
  split
  · split
    · rename_i k0 b hk
      have mb : b ∈ t.kids := by rw [hk]; simp
      have hb := T.bulk_kid mb
      split
      · split
        · rename_i c0 k1 k2 k3 k4 k5 hbk
          have m3 := T.bulk_kid (t := b) (u := k3) (by rw [hbk]; simp)
          have m4 := T.bulk_kid (t := b) (u := k4) (by rw [hbk]; simp)
          have l3 := @T.bulk_len k3
          split
          · split
            · exact hz
            · exact ⟨T.fits_bulk (t := k4) (by omega), by show (doneS k3.kids).length ≤ _; unfold doneS; rw [List.length_map]; omega⟩
          · exact hz
        · exact hz
      · exact hz
    · exact hz
  · exact hz
section
variable {S : AS}
theorem b111 {key : T} {c : Ck} (hk : key.bulk ≤ 1073741824) (hc : c.sm) : call 111 [.agg key.cells, .agg c.cells] S = some (.agg (sealT key c).cells, S) :=
  s111 (by omega) (by have := hc.secret; omega) hc.bd.ok
set_option maxHeartbeats 8000000 in
set_option maxRecDepth 100000 in
theorem law17 {key t : T} {c : Ck} {now : Int} (hk : key.bulk ≤ 1073741824) (hc : c.sm) (ht : t.bulk ≤ 1073741824) : call 17 [.agg key.cells, .agg c.cells, .agg t.cells, .sc (.int .i64 now)] S = some (.sc (.bool true), S) := by
  rw [call_keep a17 (by simp) rfl]
  have e107 := @s107
  have e110 := fun S => @s110 S c
  have hcf := hc.few
  have fk : key.fits := T.fits_bulk (by omega)
  have fs : c.secret.fits := T.fits_bulk (by have := hc.secret; omega)
  have ft : t.fits := T.fits_bulk (by omega)
  generalize c.few = d at *
  cases h1 : key.small with
  | false => simp [f17, f17b, e107, s108, fk, h1]
  | true =>
    cases h2 : c.secret.small with
    | false => simp [f17, f17b, e107, s108, fk, fs, h1, h2]
    | true =>
      cases h3 : t.small with
      | false => simp [f17, f17b, e107, s108, fk, fs, ft, h1, h2, h3]
      | true =>
        have e109 := fun S => @b109 S key d hk hcf
        have e111 := fun S => @b111 S key d hk hcf
        have e112 := fun S => @b112 S key t now (by omega) (by omega)
        have e113 := fun S => @s113 S key t now (by omega) (by omega)
        have sf := T.fits_bulk (sm_seal hk hcf)
        obtain ⟨o1, o2⟩ := @open_fits key t now (by omega)
        generalize openP key t now = O at *
        have e115 := fun S => @s115 S O.1 O.1 o1 o2
        have hself := Ck.same_self O.1
        simp [f17, f17b, e107, e110, s108, fk, fs, ft, h1, h2, h3, e109, e111, e112, e113, sf, e115, hself]
end
end Abs

namespace Abs
open Go

abbrev bl (x : ByteArray) : List UInt8 := x.data.toList
theorem bl_app {x y : ByteArray} : bl (x ++ y) = bl x ++ bl y := by simp [ByteArray.data_append]
theorem bl_inj {x y : ByteArray} (h : bl x = bl y) : x = y := ba_data h
theorem numB_bl {n : Nat} : bl (numB n) = Lib.decDigits n := rfl
theorem digs_cut : ∀ {a b x y : List UInt8}, (∀ c ∈ a, isDig c) → (∀ c ∈ b, isDig c) → a ++ 58 :: x = b ++ 58 :: y → a = b ∧ x = y
  | [], [], x, y, _, _, h => by simp at h; exact ⟨rfl, h⟩
  | [], c :: b, x, y, _, hb, h => by
    simp at h
    have := hb c (by simp)
    rw [← h.1] at this
    exact absurd this (by decide)
  | c :: a, [], x, y, ha, _, h => by
    simp at h
    have := ha c (by simp)
    rw [h.1] at this
    exact absurd this (by decide)
  | c :: a, d :: b, x, y, ha, hb, h => by
    simp only [List.cons_append, List.cons.injEq] at h
    obtain ⟨e1, e2⟩ := digs_cut (fun z hz => ha z (by simp [hz])) (fun z hz => hb z (by simp [hz])) h.2
    exact ⟨by rw [h.1, e1], e2⟩
theorem numB_inj {m n : Nat} (h : numB m = numB n) : m = n := by
  have h1 := (decDigits_dig m).2.1
  have h2 := (decDigits_dig n).2.1
  have : Lib.decDigits m = Lib.decDigits n := by rw [← numB_bl, ← numB_bl, h]
  rw [← h1, this, h2]
theorem name_cut {m n : ByteArray} {x y : List UInt8} (hm : m ≠ ⟨#[]⟩) (hn : n ≠ ⟨#[]⟩) (h : bl (nameT m) ++ x = bl (nameT n) ++ y) : m = n ∧ x = y := by
  unfold nameT at h
  rw [if_neg hm, if_neg hn, bl_app, bl_app, bl_app, bl_app] at h
  have e58 : bl ⟨#[58]⟩ = [58] := rfl
  rw [e58] at h
  simp only [List.append_assoc, List.singleton_append] at h
  obtain ⟨h1, h2⟩ := digs_cut (fun c hc => (decDigits_dig m.size).1 c hc) (fun c hc => (decDigits_dig n.size).1 c hc) h
  have hs : m.size = n.size := numB_inj (bl_inj h1)
  have hl : (bl m).length = (bl n).length := by simp; exact hs
  obtain ⟨e1, e2⟩ := List.append_inj h2 hl
  exact ⟨bl_inj e1, e2⟩
theorem ltr_inj {k l : Int} (hk : knd k = true) (hl : knd l = true) (h : ltr k = ltr l) : k = l := by
  rcases knd_cases hk with rfl | rfl | rfl | rfl | rfl | rfl | rfl | rfl | rfl | rfl <;> rcases knd_cases hl with rfl | rfl | rfl | rfl | rfl | rfl | rfl | rfl | rfl | rfl <;> first | rfl | (exact absurd h (by decide))
def ltb (k : Int) : UInt8 := (bl (ltr k)).headD 0
theorem ltr_bl {k : Int} : bl (ltr k) = [ltb k] := rfl
theorem ltb_ne {k : Int} (hk : knd k = true) : ltb k ≠ 41 ∧ ltb k ≠ 44 := by
  rcases knd_cases hk with rfl | rfl | rfl | rfl | rfl | rfl | rfl | rfl | rfl | rfl <;> decide
theorem text_head {t : T} : ∃ r, bl t.text = ltb t.kind :: r := by
  rw [T.text_def]
  unfold hdT
  split <;> (simp only [bl_app, ltr_bl]; exact ⟨_, rfl⟩)
theorem rshp_ones {t : T} (h : t.rshp = true) : knd t.kind = true ∧ (nmd t.kind = true ↔ t.name ≠ ⟨#[]⟩) ∧ (kdn t.kind < 0 ∨ (t.kids.length : Int) = kdn t.kind) := by
  rw [t.rshp_def, Bool.and_eq_true] at h
  exact T.one_iff.1 h.1
theorem rshp_knd {t : T} (h : t.rshp = true) : knd t.kind = true := (rshp_ones h).1
theorem emp_kind {t : T} (hr : t.rshp = true) : (t.kids.isEmpty && !(decide (t.kind = 3))) = decide (t.kind ≤ 2) := by
  rw [t.rshp_def, Bool.and_eq_true] at hr
  obtain ⟨h1, h2, h3⟩ := T.one_iff.1 hr.1
  have hk := knd_cases h1
  by_cases hc : t.kids = []
  · have hz : t.kids.length = 0 := by rw [hc]; rfl
    rw [hz] at h3
    have : t.kind = 3 ∨ t.kind ≤ 2 := by
      rcases hk with h | h | h | h | h | h | h | h | h | h <;> rw [h] at h3 ⊢ <;> simp [kdn] at h3 <;> omega
    rw [hc]
    by_cases h3' : t.kind = 3
    · simp [h3']
    · have : t.kind ≤ 2 := by omega
      simp [h3', this]
  · have : ¬ t.kind ≤ 2 := by
      intro h
      have : t.kids.length = 0 := by
        rcases (show t.kind = 1 ∨ t.kind = 2 by omega) with h | h <;> rw [h] at h3 <;> simp [kdn] at h3 <;> simp [h3]
      exact hc (List.length_eq_zero_iff.1 this)
    simp [hc, this]
def Inj (t : T) : Prop := ∀ b : T, b.rshp = true → ∀ x y : List UInt8, bl t.text ++ x = bl b.text ++ y → t = b ∧ x = y
theorem bl0 : bl ⟨#[]⟩ = [] := rfl
theorem bl44 : bl ⟨#[44]⟩ = [44] := rfl
theorem comma_inj : ∀ {l : List T}, (∀ t ∈ l, Inj t) → ∀ {m : List T}, (∀ t ∈ m, t.rshp = true) → ∀ {x y : List UInt8}, bl (commaT l) ++ 41 :: x = bl (commaT m) ++ 41 :: y → l = m ∧ x = y
  | [], _, [], _, x, y, h => by
    have h : 41 :: x = 41 :: y := h
    simp at h; exact ⟨rfl, h⟩
  | [], _, b :: m, _, x, y, h => by
    rw [commaT, commaT, bl_app, bl_app] at h
    simp [bl0, bl44] at h
  | a :: l, _, [], _, x, y, h => by
    rw [commaT, commaT, bl_app, bl_app] at h
    simp [bl0, bl44] at h
  | a :: l, hl, b :: m, hm, x, y, h => by
    rw [commaT, commaT, bl_app, bl_app, bl_app, bl_app] at h
    have h : 44 :: (bl a.text ++ (bl (commaT l) ++ 41 :: x)) = 44 :: (bl b.text ++ (bl (commaT m) ++ 41 :: y)) := by simpa [bl0, bl44] using h
    simp only [List.cons.injEq, true_and] at h
    obtain ⟨e1, e2⟩ := hl a (by simp) b (hm b (by simp)) _ _ h
    obtain ⟨e3, e4⟩ := comma_inj (fun t ht => hl t (by simp [ht])) (fun t ht => hm t (by simp [ht])) e2
    exact ⟨by rw [e1, e3], e4⟩
theorem join_inj {l m : List T} (hl : ∀ t ∈ l, Inj t) (hlr : ∀ t ∈ l, t.rshp = true) (hm : ∀ t ∈ m, t.rshp = true) {x y : List UInt8} (h : bl (joinT l) ++ 41 :: x = bl (joinT m) ++ 41 :: y) : l = m ∧ x = y := by
  cases l with
  | nil =>
    cases m with
    | nil =>
      have h : 41 :: x = 41 :: y := h
      simp at h; exact ⟨rfl, h⟩
    | cons b m =>
      obtain ⟨r, hr⟩ := @text_head b
      rw [joinT, joinT, bl_app, hr] at h
      have h : 41 :: x = ltb b.kind :: (r ++ bl (commaT m) ++ 41 :: y) := by simpa [bl0, bl44] using h
      simp only [List.cons.injEq] at h
      exact absurd h.1.symm (ltb_ne (rshp_knd (hm b (by simp)))).1
  | cons a l =>
    cases m with
    | nil =>
      obtain ⟨r, hr⟩ := @text_head a
      rw [joinT, joinT, bl_app, hr] at h
      have h : ltb a.kind :: (r ++ bl (commaT l) ++ 41 :: x) = 41 :: y := by simpa [bl0, bl44] using h
      simp only [List.cons.injEq] at h
      exact absurd h.1 (ltb_ne (rshp_knd (hlr a (by simp)))).1
    | cons b m =>
      rw [joinT, joinT, bl_app, bl_app, List.append_assoc, List.append_assoc] at h
      obtain ⟨e1, e2⟩ := hl a (by simp) b (hm b (by simp)) _ _ h
      obtain ⟨e3, e4⟩ := comma_inj (fun t ht => hl t (by simp [ht])) (fun t ht => hm t (by simp [ht])) e2
      exact ⟨by rw [e1, e3], e4⟩
theorem text_inj : ∀ (n : Nat) (a : T), sizeOf a < n → a.rshp = true → Inj a
  | 0, _, h, _ => by omega
  | n + 1, a, hn, ha => by
    intro b hb x y h
    have ih : ∀ t ∈ a.kids, Inj t := fun t ht => text_inj n t (by have := T.kid_lt ht; omega) (T.rshp_kid ha ht)
    have ka := rshp_knd ha
    have kb := rshp_knd hb
    rw [T.text_def, T.text_def, emp_kind ha, emp_kind hb] at h
    have hk : a.kind = b.kind := by
      apply ltr_inj ka kb
      apply bl_inj
      rw [ltr_bl, ltr_bl]
      unfold hdT at h
      have : ∀ (k : Int) (n : ByteArray) (c : Bool) (z w : ByteArray), ∃ r, bl (if c = true then ltr k ++ nameT n else ltr k ++ nameT n ++ z ++ w ++ ⟨#[41]⟩) = ltb k :: r := by
        intro k n c z w
        cases c <;> (simp only [Bool.false_eq_true, if_true, if_false, bl_app, ltr_bl]; exact ⟨_, rfl⟩)
      obtain ⟨r1, e1⟩ := this a.kind a.name (decide (a.kind ≤ 2)) ⟨#[40]⟩ (joinT a.kids)
      obtain ⟨r2, e2⟩ := this b.kind b.name (decide (b.kind ≤ 2)) ⟨#[40]⟩ (joinT b.kids)
      rw [e1, e2] at h
      simp only [List.cons_append, List.cons.injEq] at h
      rw [h.1]
    have hnm : ∀ z w : List UInt8, bl (nameT a.name) ++ z = bl (nameT b.name) ++ w → a.name = b.name ∧ z = w := by
      intro z w h
      obtain ⟨_, na, _⟩ := rshp_ones ha
      obtain ⟨_, nb, _⟩ := rshp_ones hb
      rw [← hk] at nb
      by_cases hn : nmd a.kind = true
      · exact name_cut (na.1 hn) (nb.1 hn) h
      · have ea : a.name = ⟨#[]⟩ := by by_cases e : a.name = ⟨#[]⟩; exact e; exact absurd (na.2 e) hn
        have eb : b.name = ⟨#[]⟩ := by by_cases e : b.name = ⟨#[]⟩; exact e; exact absurd (nb.2 e) hn
        rw [ea, eb] at h ⊢
        exact ⟨rfl, by simpa using h⟩
    rw [← hk] at h
    have fin : a.name = b.name → a.kids = b.kids → a = b := by
      obtain ⟨k1, n1, l1⟩ := a
      obtain ⟨k2, n2, l2⟩ := b
      intro e1 e2
      have hk : k1 = k2 := hk
      have e1 : n1 = n2 := e1
      have e2 : l1 = l2 := e2
      rw [hk, e1, e2]
    unfold hdT at h
    by_cases h2 : a.kind ≤ 2
    · simp only [h2, decide_true, if_true, bl_app, List.append_assoc] at h
      have h := List.append_cancel_left h
      obtain ⟨e1, e2⟩ := hnm _ _ h
      have l0 : ∀ t : T, t.rshp = true → t.kind ≤ 2 → t.kids = [] := by
        intro t ht h2
        have := emp_kind ht
        simp only [h2, decide_true, Bool.and_eq_true, List.isEmpty_iff] at this
        exact this.1
      exact ⟨fin e1 (by rw [l0 a ha h2, l0 b hb (by rw [← hk]; exact h2)]), e2⟩
    · simp only [h2, decide_false, Bool.false_eq_true, if_false, bl_app, List.append_assoc] at h
      have h := List.append_cancel_left h
      obtain ⟨e1, e2⟩ := hnm _ _ h
      have e40 : bl ⟨#[40]⟩ = [40] := rfl
      have e41 : bl ⟨#[41]⟩ = [41] := rfl
      rw [e40, e41] at e2
      simp only [List.singleton_append, List.cons.injEq, true_and] at e2
      obtain ⟨e3, e4⟩ := join_inj ih (fun t ht => T.rshp_kid ha ht) (fun t ht => T.rshp_kid hb ht) e2
      exact ⟨fin e1 e3, e4⟩
theorem text_same {a b : T} (ha : a.rshp = true) (hb : b.rshp = true) : a.text = b.text ↔ a = b := by
  refine ⟨fun h => ?_, fun h => by rw [h]⟩
  exact (text_inj _ a (Nat.lt_succ_self _) ha b hb [] [] (by rw [h])).1
end Abs

namespace Abs
open Go

theorem sealT_inj {k1 k2 : T} {a b : Ck} (h1 : k1.fit = true) (h2 : a.secret.fit = true) (h3 : k2.fit = true) (h4 : b.secret.fit = true) (ha : inI a.upto) (hb : inI b.upto) : sealT k1 a = sealT k2 b ↔ a = b ∧ k1 = k2 := by
  refine ⟨fun h => ?_, fun h => by rw [h.1, h.2]⟩
  rw [sealT_fit h1 h2, sealT_fit h3 h4] at h
  have hk := congrArg T.kids h
  have hk : [k1, tPair (bodyT a)] = [k2, tPair (bodyT b)] := hk
  simp only [List.cons.injEq, and_true] at hk
  obtain ⟨e1, e2⟩ := hk
  have e2 := congrArg T.kids e2
  have e2 : [tData ⟨#[99, 111, 111, 107, 105, 101]⟩, tData (⟨#[99]⟩ ++ a.client), tData (⟨#[110]⟩ ++ a.nonce), tPair (doneT a.done), a.secret, tData (⟨#[117]⟩ ++ itoaB a.upto)] = [tData ⟨#[99, 111, 111, 107, 105, 101]⟩, tData (⟨#[99]⟩ ++ b.client), tData (⟨#[110]⟩ ++ b.nonce), tPair (doneT b.done), b.secret, tData (⟨#[117]⟩ ++ itoaB b.upto)] := e2
  simp only [List.cons.injEq, and_true, true_and] at e2
  obtain ⟨b1, b2, b3, b4, b5⟩ := e2
  have ra := readC_body ha
  have rb := readC_body hb
  rw [b1, b2, b3, b4, b5] at ra
  exact ⟨ra.symm.trans rb, e1⟩
section
variable {S : AS}
set_option maxHeartbeats 8000000 in
set_option maxRecDepth 100000 in
theorem law21 {a0 b0 : Ck} {key other : T} (ha : a0.sm) (hb : b0.sm) (hk : key.bulk ≤ 1073741824) (hot : other.bulk ≤ 1073741824) : call 21 [.agg a0.cells, .agg b0.cells, .agg key.cells, .agg other.cells] S = some (.sc (.bool true), S) := by
  rw [call_keep a21 (by simp) rfl]
  have e107 := @s107
  have e110 := fun S => @s110 S a0
  have e110b := fun S => @s110 S b0
  have haf := ha.few
  have hbf := hb.few
  generalize a0.few = a at *
  generalize b0.few = b at *
  have fk : key.fits := T.fits_bulk (by omega)
  have fo : other.fits := T.fits_bulk (by omega)
  have fa : a.secret.fits := T.fits_bulk (by have := haf.secret; omega)
  have fb : b.secret.fits := T.fits_bulk (by have := hbf.secret; omega)
  cases h1 : key.small with
  | false => simp [f21, f21b, e107, e110, e110b, s108, fk, h1]
  | true =>
    cases h2 : other.small with
    | false => simp [f21, f21b, e107, e110, e110b, s108, fk, fo, h1, h2]
    | true =>
      cases h3 : a.secret.small with
      | false => simp [f21, f21b, e107, e110, e110b, s108, fk, fo, fa, h1, h2, h3]
      | true =>
        cases h4 : b.secret.small with
        | false => simp [f21, f21b, e107, e110, e110b, s108, fk, fo, fa, fb, h1, h2, h3, h4]
        | true =>
          have ex := fun S => @b109 S key a hk haf
          have ey := fun S => @b109 S other b hot hbf
          have bx := sm_seal hk haf
          have by' := sm_seal hot hbf
          have fx := T.fits_bulk bx
          cases hx : (key.fit && a.secret.fit) with
          | false =>
            have zx : (sealT key a).kind = 0 := by rw [seal_kind, hx]; rfl
            simp [f21, f21b, e107, e110, e110b, s108, fk, fo, fa, fb, h1, h2, h3, h4, ex, ey, zx]
          | true =>
            have zx : (sealT key a).kind = 4 := by rw [seal_kind, hx]; rfl
            cases hy : (other.fit && b.secret.fit) with
            | false =>
              have zy : (sealT other b).kind = 0 := by rw [seal_kind, hy]; rfl
              have hne : (sealT key a).same (sealT other b) = false := by
                rw [Bool.eq_false_iff]; intro h
                have := congrArg T.kind (T.same_iff.1 h)
                rw [zx, zy] at this; cases this
              simp [f21, f21b, e107, e110, e110b, s108, fk, fo, fa, fb, h1, h2, h3, h4, ex, ey, zx, zy, fx, hne]
            | true =>
              have zy : (sealT other b).kind = 4 := by rw [seal_kind, hy]; rfl
              rw [Bool.and_eq_true] at hx hy
              have hinj := sealT_inj hx.1 hx.2 hy.1 hy.2 haf.upto hbf.upto
              have rx : (sealT key a).rshp = true := by rw [sealT_fit hx.1 hx.2]; exact (T.right_iff.1 (seal_right hx.1 hx.2)).1
              have ry : (sealT other b).rshp = true := by rw [sealT_fit hy.1 hy.2]; exact (T.right_iff.1 (seal_right hy.1 hy.2)).1
              have dx : (sealT key a).dp ≤ 60 := by rw [sealT_fit hx.1 hx.2]; exact (T.right_iff.1 (seal_right hx.1 hx.2)).2.1
              have dy : (sealT other b).dp ≤ 60 := by rw [sealT_fit hy.1 hy.2]; exact (T.right_iff.1 (seal_right hy.1 hy.2)).2.1
              have tx : ∀ S, call 121 [.agg (sealT key a).cells] S = some (.sc (.string (sealT key a).text), S) := fun S => by
                rw [s121 bx]; unfold T.txt; rw [if_pos (by rw [rx]; simp [dx])]
              have ty : ∀ S, call 121 [.agg (sealT other b).cells] S = some (.sc (.string (sealT other b).text), S) := fun S => by
                rw [s121 by']; unfold T.txt; rw [if_pos (by rw [ry]; simp [dy])]
              have htx := text_same rx ry
              have e115 := fun S => @s115 S a b fa (by have := haf.done; have := @doneB_len a.done; omega)
              by_cases hs : a = b ∧ key = other
              · obtain ⟨rfl, rfl⟩ := hs
                have q1 := a.same_self
                simp [f21, f21b, e107, e110, e110b, s108, fk, fo, fa, fb, h1, h2, h3, h4, ex, ey, zx, zy, fx, e115, q1, tx, ty]
              · have hne : (sealT key a).same (sealT other b) = false := by
                  rw [Bool.eq_false_iff]; intro h; exact hs (hinj.1 (T.same_iff.1 h))
                have hnt : ¬ (sealT key a).text = (sealT other b).text := fun h => hs (hinj.1 (htx.1 h))
                by_cases hab : a = b
                · have hko : key.same other = false := by
                    rw [Bool.eq_false_iff]; intro h; exact hs ⟨hab, T.same_iff.1 h⟩
                  have q1 : a.same b = true := Ck.same_iff.2 hab
                  rw [q1] at e115
                  simp [f21, f21b, e107, e110, e110b, s108, fk, fo, fa, fb, h1, h2, h3, h4, ex, ey, zx, zy, fx, e115, tx, ty, hne, hnt, hko]
                · have q1 : a.same b = false := by
                    rw [Bool.eq_false_iff]; intro h; exact hab (Ck.same_iff.1 h)
                  rw [q1] at e115
                  simp [f21, f21b, e107, e110, e110b, s108, fk, fo, fa, fb, h1, h2, h3, h4, ex, ey, zx, zy, fx, e115, tx, ty, hne, hnt]
end
end Abs
