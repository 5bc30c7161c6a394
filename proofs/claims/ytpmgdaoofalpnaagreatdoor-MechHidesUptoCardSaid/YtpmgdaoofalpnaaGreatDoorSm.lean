/- Keys, and what is shut up: both sides. -/
import Derived.Test.YtpmgdaoofalpnaaGreatDoorSq
import Derived.Test.YtpmgdaoofalpnaaGreatDoorSp
set_option linter.unusedVariables false
set_option linter.unusedSimpArgs false
set_option linter.unusedSectionVars false
namespace Abs
open Go

def tUse (k : T) (n : Int) : T := tKdf k (⟨#[117, 115, 101, 32]⟩ ++ itoaB n)
def tOtp (k : T) (n : Int) : T := tKdf k (⟨#[111, 116, 112, 32]⟩ ++ itoaB n)
def tWd (k : T) : T := tKdf k ⟨#[119, 111, 114, 100]⟩
def tJoin (a b : T) (f g : ByteArray) : T := tHash (tPair [tKdf a (⟨#[106, 111, 105, 110, 32]⟩ ++ f), tKdf b (⟨#[106, 111, 105, 110, 32]⟩ ++ g)])
def tSecond (s w o a b : T) (n : Int) : T := tUse (tHash (tPair [s, w, o, a, b])) n
def tSeal (k : T) (n : Int) (t : T) : T := tEnc (tUse k n) t
def unsL (k : T) (n : Int) : List T → T × Int
  | [a, b] => if a.same (tUse k n) then (b, 0) else (tZ, 4)
  | _ => (tZ, 2)
def unsT (k : T) (n : Int) (t : T) : T × Int := if t.kind = 4 then unsL k n t.kids else (tZ, 2)

theorem kdf_fits {a : T} {n : ByteArray} (h : a.fits) : (tKdf a n).fits := ⟨by simp, h, trivial⟩
theorem hash_fits {a : T} (h : a.fits) : (tHash a).fits := ⟨by simp, h, trivial⟩
theorem enc_fits {a b : T} (ha : a.fits) (hb : b.fits) : (tEnc a b).fits := ⟨by simp, ha, hb, trivial⟩
theorem mask_fits {a b : T} (ha : a.fits) (hb : b.fits) : (tMask a b).fits := ⟨by simp, ha, hb, trivial⟩
theorem pub_fits {a : T} (ha : a.fits) : (tPub a).fits := ⟨by simp, ha, trivial⟩
theorem data_fits {s : ByteArray} : (tData s).fits := ⟨by simp, trivial⟩
theorem word_fits {s : ByteArray} : (tWord s).fits := ⟨by simp, trivial⟩
theorem atm_fits {s : ByteArray} : (tAtom s).fits := ⟨by simp, trivial⟩
theorem pair_fits {l : List T} (hl : l.length ≤ 4611686018427387904) (h : fitsL l) : (tPair l).fits := ⟨hl, h⟩
theorem pack_fits {s : ByteArray} {l : List T} (hl : l.length ≤ 1000) (h : fitsL l) : (tPack s l).fits := ⟨by simp; omega, data_fits, h⟩
theorem use_fits {a : T} {n : Int} (h : a.fits) : (tUse a n).fits := kdf_fits h
theorem join_fits {a b : T} {f g : ByteArray} (ha : a.fits) (hb : b.fits) : (tJoin a b f g).fits := hash_fits (pair_fits (by simp) ⟨kdf_fits ha, kdf_fits hb, trivial⟩)
theorem seal_fit' {k t : T} {n : Int} (hk : k.fits) (ht : t.fits) : (tSeal k n t).fits := enc_fits (use_fits hk) ht

section
variable {S : AS}
theorem s368 {a : T} {w : ByteArray} {n : Int} (hw : w.size ≤ 1000) (hn : inI n) : call 368 [.agg a.cells, .sc (.string w), .sc (.int .i64 n)] S = some (.agg (tKdf a (w ++ ⟨#[32]⟩ ++ itoaB n)).cells, S) := by
  rw [call_calm a368 rfl (by simp) rfl]
  have e1 := fun S => @c193 S n hn
  have h32 : (⟨#[32]⟩ : ByteArray).size = 1 := rfl
  have p1 := pev_sadd (x := w) (y := ⟨#[32]⟩) (by omega)
  have hs := itoaB_le hn.1 hn.2
  have p2 := pev_sadd (x := w ++ ⟨#[32]⟩) (y := itoaB n) (by rw [ByteArray.size_append]; omega)
  simp [f368, f368b, e1, p1, p2]
theorem s354 {a : T} {n : Int} (hn : inI n) : call 354 [.agg a.cells, .sc (.int .i64 n)] S = some (.agg (tUse a n).cells, S) := by
  rw [call_calm a354 rfl (by simp) rfl]
  have e1 := fun S => @s368 S a ⟨#[117, 115, 101]⟩ n (by show 3 ≤ 1000; omega) hn
  have h1 : (⟨#[117, 115, 101]⟩ : ByteArray) ++ ⟨#[32]⟩ = ⟨#[117, 115, 101, 32]⟩ := rfl
  rw [h1] at e1
  simp [f354, f354b, e1, tUse]
theorem s278 {a : T} {n : Int} (hn : inI n) : call 278 [.agg a.cells, .sc (.int .i64 n)] S = some (.agg (tOtp a n).cells, S) := by
  rw [call_calm a278 rfl (by simp) rfl]
  have e1 := fun S => @s368 S a ⟨#[111, 116, 112]⟩ n (by show 3 ≤ 1000; omega) hn
  have h1 : (⟨#[111, 116, 112]⟩ : ByteArray) ++ ⟨#[32]⟩ = ⟨#[111, 116, 112, 32]⟩ := rfl
  rw [h1] at e1
  simp [f278, f278b, e1, tOtp]
theorem s158 {a : T} {n : Int} (hn : inI n) (h0 : n ≠ -9223372036854775808) : call 158 [.agg a.cells, .sc (.int .i64 n)] S = some (.agg (tOtp a n).cells, S) := by
  rw [call_calm a158 rfl (by simp) rfl]
  have e1 := fun S => @s139 S n (by have := hn.1; omega) hn.2
  have h32 : (⟨#[111, 116, 112, 32]⟩ : ByteArray).size = 4 := rfl
  have hs := itoaB_le hn.1 hn.2
  have p1 := pev_sadd (x := ⟨#[111, 116, 112, 32]⟩) (y := itoaB n) (by omega)
  simp [f158, f158b, e1, p1, tOtp]
@[simp] theorem s363 {a : T} : call 363 [.agg a.cells] S = some (.agg (tWd a).cells, S) := by
  rw [call_calm a363 rfl (by simp) rfl]
  simp [f363, f363b, tWd]
theorem s350 {a b : T} {f g : ByteArray} (hf : f.size ≤ 1000) (hg : g.size ≤ 1000) : call 350 [.agg a.cells, .agg b.cells, .sc (.string f), .sc (.string g)] S = some (.agg (tJoin a b f g).cells, S) := by
  rw [call_calm a350 rfl (by simp) rfl]
  have h5 : (⟨#[106, 111, 105, 110, 32]⟩ : ByteArray).size = 5 := rfl
  have p1 := pev_sadd (x := ⟨#[106, 111, 105, 110, 32]⟩) (y := f) (by omega)
  have p2 := pev_sadd (x := ⟨#[106, 111, 105, 110, 32]⟩) (y := g) (by omega)
  have e1 : ∀ (S : AS) (x y : T), call 126 [.lst 3 true [x.cells, y.cells]] S = some (.agg (tPair [x, y]).cells, S) := fun S x y => q126 isTs2 (by show 2 * 48 ≤ _; omega)
  simp [f350, f350b, p1, p2, e1, tJoin, fillR]
theorem s364 {s w o a b : T} {n : Int} (hn : inI n) : call 364 [.agg s.cells, .agg w.cells, .agg o.cells, .agg a.cells, .agg b.cells, .sc (.int .i64 n)] S = some (.agg (tSecond s w o a b n).cells, S) := by
  rw [call_calm a364 rfl (by simp) rfl]
  have e1 : ∀ (S : AS), call 126 [.lst 3 true [s.cells, w.cells, o.cells, a.cells, b.cells]] S = some (.agg (tPair [s, w, o, a, b]).cells, S) := fun S => q126 (isTs_lst (l := [s, w, o, a, b])) (by show 5 * 48 ≤ _; omega)
  have e2 := fun S k => @s354 S k n hn
  simp [f364, f364b, e1, e2, tSecond, fillR]
theorem s261 {k t : T} {n : Int} (hn : inI n) : call 261 [.agg k.cells, .sc (.int .i64 n), .agg t.cells] S = some (.agg (tSeal k n t).cells, S) := by
  rw [call_calm a261 rfl (by simp) rfl]
  have e2 := fun S => @s354 S k n hn
  simp [f261, f261b, e2, tSeal]
def resU (r : T × Int) : AV := .tup [.agg r.1.cells, .sc (.int .i64 r.2)]
theorem s263 {k t : T} {n : Int} (hn : inI n) (ht : t.fits) : call 263 [.agg k.cells, .sc (.int .i64 n), .agg t.cells] S = some (resU (unsT k n t), S) := by
  rw [call_calm a263 rfl (by simp) rfl]
  have e2 := fun S => @s354 S k n hn
  unfold unsT
  by_cases h4 : t.kind = 4
  · rw [if_pos h4]
    by_cases h2 : t.kids.length = 2
    · obtain ⟨a, b, hab⟩ : ∃ a b, t.kids = [a, b] := by
        match hl : t.kids, h2 with
        | [a, b], _ => exact ⟨a, b, rfl⟩
      have l0 : pev (.iaddr 3) [lstT t.kids, .i 0] = some (.iptr a.cells) := lstT_at (i := 0) (by rw [hab]; rfl)
      have l1 : pev (.iaddr 3) [lstT t.kids, .i 1] = some (.iptr b.cells) := lstT_at (i := 1) (by rw [hab]; rfl)
      have fa : a.fits := (T.fits_kids ht).2 a (by rw [hab]; simp)
      have h2' : (t.kids.length : Int) = 2 := by omega
      cases hs : a.same (tUse k n) with
      | true =>
        have hr : unsL k n t.kids = (b, 0) := by rw [hab]; simp [unsL, hs]
        rw [hr]
        simp [f263, f263b, eq_true h4, h2', l0, l1, fa, e2, hs, resU]
      | false =>
        have hr : unsL k n t.kids = (tZ, 4) := by rw [hab]; simp [unsL, hs]
        rw [hr]
        simp [f263, f263b, eq_true h4, h2', l0, l1, fa, e2, hs, resU, tZ, T.cells, rowsT]
        rfl
    · have hr : unsL k n t.kids = (tZ, 2) := by
        unfold unsL; split
        · rename_i heq; rw [heq] at h2; simp at h2
        · rfl
      rw [hr]
      have h2' : ¬ (t.kids.length : Int) = 2 := by omega
      simp [f263, f263b, eq_true h4, h2', resU, tZ, T.cells, rowsT]
      rfl
  · rw [if_neg h4]
    simp [f263, f263b, h4, resU, tZ, T.cells, rowsT]
    rfl
end
end Abs

namespace Abs
open Go

def chalB : ByteArray := ⟨#[99, 104, 97, 108, 108, 101, 110, 103, 101]⟩
def timeB : ByteArray := ⟨#[116, 105, 109, 101]⟩
def armB : ByteArray := ⟨#[99, 108, 105, 101, 110, 116, 99, 104, 97, 108, 108, 101, 110, 103, 101, 97, 114, 109, 111, 114]⟩
def lonB : ByteArray := ⟨#[99, 104, 97, 108, 108, 101, 110, 103, 101, 108, 111, 110, 103, 116, 101, 114, 109]⟩
def tCk (a u : T) : T := tJoin a u armB lonB
def tTime (body : T) (now : Int) : T := tPack timeB [tNum now, tHash body]
def tChal (a u body : T) (now : Int) : T := tPack chalB [tSeal (tCk a u) 54 (tTime body now)]
def chkN (body b : T) (now n : Int) : Int := if b.same (tHash body) then (if (n - now).natAbs > 5 then 5 else 0) else 6
noncomputable def chkL (body : T) (now : Int) : List T → Int
  | [a, b] => match numOf a with
    | some n => chkN body b now n
    | none => 2
  | _ => 2
noncomputable def chkU (body : T) (now : Int) (r : T × Int) : Int := if r.2 = 4 then 6 else if r.2 = 0 then (match unpT timeB 2 r.1 with | some l => chkL body now l | none => 2) else r.2
noncomputable def chkT (a u body p : T) (now : Int) : Int := match unpT chalB 1 p with
  | some [x] => chkU body now (unsT (tCk a u) 54 x)
  | _ => 2

theorem endN_lt {s : ByteArray} {o : Option Nat} {n : Int} {b : Nat} (h : endN s o = some n) (hb : ∀ k, o = some k → k < b) : n.natAbs < b := by
  unfold endN at h
  obtain ⟨k, hk, h⟩ := Option.bind_eq_some_iff.1 h
  have := hb k hk
  by_cases hc : s.data[0]? = some 45
  · simp only [hc, if_true] at h
    split at h
    · cases h; omega
    · cases h
  · simp only [hc, if_false] at h
    split at h
    · cases h; omega
    · cases h
theorem numOf_lt {t : T} {n : Int} (h : numOf t = some n) : n.natAbs < 1000000000000000000 := by
  unfold numOf at h
  obtain ⟨s, _, h⟩ := Option.bind_eq_some_iff.1 h
  split at h
  · rename_i h18
    rw [← endN_eq h18] at h
    refine endN_lt h fun k hk => ?_
    have hlt := scan_lt (k := 0) (by omega) hk
    have hpow : 10 ^ (0 + s.data.toList.length) ≤ 10 ^ 18 := Nat.pow_le_pow_right (by omega) (by simp; omega)
    omega
  · cases h
section
variable {S : AS}
theorem s262 {a u : T} : call 262 [.agg a.cells, .agg u.cells] S = some (.agg (tCk a u).cells, S) := by
  rw [call_calm a262 rfl (by simp) rfl]
  have e1 := fun S => @s350 S a u armB lonB (by show 20 ≤ 1000; omega) (by show 17 ≤ 1000; omega)
  simp only [armB, lonB] at e1
  simp [f262, f262b, e1, tCk, armB, lonB]
theorem i54 : inI 54 := by unfold inI; omega
theorem s148 {a u body : T} {now : Int} (hn : inI now) : call 148 [.agg a.cells, .agg u.cells, .agg body.cells, .sc (.int .i64 now)] S = some (.agg (tChal a u body now).cells, S) := by
  rw [call_calm a148 rfl (by simp) rfl]
  have e1 := fun S => @s66 S now hn
  have e2 : ∀ S, call 62 [.s ⟨#[116, 105, 109, 101]⟩, .lst 3 true [(tNum now).cells, (tHash body).cells]] S = some (.agg (tTime body now).cells, S) := fun S => p62 isTs2 (by show 3 * 48 ≤ _; omega)
  have e3 : ∀ S, call 62 [.s ⟨#[99, 104, 97, 108, 108, 101, 110, 103, 101]⟩, .lst 3 true [(tSeal (tCk a u) 54 (tTime body now)).cells]] S = some (.agg (tChal a u body now).cells, S) := fun S => p62 isTs1 (by show 2 * 48 ≤ _; omega)
  have e4 := fun S => @s261 S (tCk a u) (tTime body now) 54 i54
  have e5 := fun S => @s262 S a u
  simp [f148, f148b, e1, e2, e3, e4, e5, fillR]
theorem s264 {a b : Int} (ha : a.natAbs < 1000000000000000000) (hb : b.natAbs ≤ 1000000000000000) : call 264 [.sc (.int .i64 a), .sc (.int .i64 b)] S = some (.sc (.int .i64 (if (a - b).natAbs > 5 then 6 else (a - b).natAbs)), S) := by
  rw [call_calm a264 rfl (by simp) rfl]
  have w1 : IntKind.i64.wrap (a + 5) = a + 5 := w64 (by omega)
  have w2 : IntKind.i64.wrap (a + 5 + 1) = a + 5 + 1 := w64 (by omega)
  have w3 : IntKind.i64.wrap (b + 5) = b + 5 := w64 (by omega)
  have w4 : IntKind.i64.wrap (b + 5 + 1) = b + 5 + 1 := w64 (by omega)
  have w5 : IntKind.i64.wrap (a - b) = a - b := w64 (by omega)
  have w6 : IntKind.i64.wrap (b - a) = b - a := w64 (by omega)
  by_cases h : a < b
  · have hd : ((a - b).natAbs : Int) = b - a := by omega
    by_cases h0 : a < 0
    · by_cases h6 : a + 5 + 1 < b
      · rw [if_pos (by omega)]
        simp [f264, f264b, h, h0, w1, w2, w6, h6]
      · by_cases h5 : 5 < b - a
        · rw [if_pos (by omega)]; simp [f264, f264b, h, h0, w1, w2, w6, h6, h5]
        · rw [if_neg (by omega)]; simp [f264, f264b, h, h0, w1, w2, w6, h6, h5, hd]
    · by_cases h5 : 5 < b - a
      · rw [if_pos (by omega)]; simp [f264, f264b, h, h0, w1, w2, w6, h5]
      · rw [if_neg (by omega)]; simp [f264, f264b, h, h0, w1, w2, w6, h5, hd]
  · have hd : ((a - b).natAbs : Int) = a - b := by omega
    by_cases h0 : b < 0
    · by_cases h6 : b + 5 + 1 < a
      · rw [if_pos (by omega)]
        simp [f264, f264b, h, h0, w3, w4, w5, h6]
      · by_cases h5 : 5 < a - b
        · rw [if_pos (by omega)]; simp [f264, f264b, h, h0, w3, w4, w5, h6, h5]
        · rw [if_neg (by omega)]; simp [f264, f264b, h, h0, w3, w4, w5, h6, h5, hd]
    · by_cases h5 : 5 < a - b
      · rw [if_pos (by omega)]; simp [f264, f264b, h, h0, w5, h5]
      · rw [if_neg (by omega)]; simp [f264, f264b, h, h0, w5, h5, hd]
end
end Abs

namespace Abs
open Go

abbrev T.bb (t : T) : Prop := t.bd 140737488355328
theorem T.bb_kids : ∀ {t : T}, t.bb → ∀ u ∈ t.kids, u.bb
  | .mk _ _ _, h, u, hu => bdL_iff.1 h.2.2 u hu
theorem T.bb_len : ∀ {t : T}, t.bb → t.kids.length * 48 ≤ 140737488355328
  | .mk _ _ _, h => h.2.1
theorem T.bb_name : ∀ {t : T}, t.bb → t.name.size ≤ 140737488355328
  | .mk _ _ _, h => h.1
theorem T.bb_fits {t : T} (h : t.bb) : t.fits := T.fits_bd (by omega) h
theorem tZ_bb : tZ.bb := ⟨by show 0 ≤ _; omega, by show 0 * 48 ≤ _; omega, trivial⟩
theorem unsT_bb {k t : T} {n : Int} (h : t.bb) : (unsT k n t).1.bb := by
  unfold unsT
  split
  · unfold unsL
    split
    · rename_i a b hab
      split
      · exact T.bb_kids h b (by rw [hab]; simp)
      · exact tZ_bb
    · exact tZ_bb
  · exact tZ_bb
section
variable {S : AS}
set_option maxHeartbeats 1000000 in
theorem s149 {a u body p : T} {now : Int} (hp : p.bb) (hn : now.natAbs ≤ 1000000000000000) : call 149 [.agg a.cells, .agg u.cells, .agg body.cells, .agg p.cells, .sc (.int .i64 now)] S = some (.sc (.int .i64 (chkT a u body p now)), S) := by
  rw [call_calm a149 rfl (by simp) rfl]
  have e1 := fun S => @s78 S chalB 1 p (by have := T.bb_len hp; omega)
  simp only [chalB] at e1
  have e2 := fun S => @s262 S a u
  unfold chkT
  cases hu : unpT chalB 1 p with
  | none =>
    simp only [chalB] at hu
    simp [f149, f149b, e1, hu, optL]
  | some l =>
    obtain ⟨hl, hm⟩ := unpT_len (n := 1) hu
    match l, hl with
    | [x], _ =>
      simp only [chalB] at hu
      have hx := T.bb_kids hp x (hm x (by simp))
      have e3 := fun S => @s263 S (tCk a u) x 54 i54 (T.bb_fits hx)
      have hr := @unsT_bb (tCk a u) x 54 hx
      simp only
      generalize unsT (tCk a u) 54 x = r at e3 hr ⊢
      obtain ⟨y, er⟩ := r
      simp only at hr
      have lx : pev (.iaddr 3) [lstT [x], .i 0] = some (.iptr x.cells) := lstT_at (i := 0) rfl
      unfold chkU
      simp only
      by_cases h4 : er = 4
      · subst h4
        simp [f149, f149b, e1, e2, e3, hu, optL, resU, lx]
      · by_cases h0 : er = 0
        · subst h0
          have e5 := fun S => @s78 S timeB 2 y (by have := T.bb_len hr; omega)
          simp only [timeB] at e5
          cases hv : unpT timeB 2 y with
          | none =>
            simp only [timeB] at hv
            simp [f149, f149b, e1, e2, e3, e5, hu, hv, optL, resU, lx]
          | some m =>
            obtain ⟨hml, hmm⟩ := unpT_len (n := 2) hv
            match m, hml with
            | [c, b], _ =>
              simp only [timeB] at hv
              have hc := T.bb_kids hr c (hmm c (by simp))
              have hb := T.bb_kids hr b (hmm b (by simp))
              have e6 := fun S => @s87 S c (by have := T.bb_name hc; omega)
              have lc : pev (.iaddr 3) [lstT [c, b], .i 0] = some (.iptr c.cells) := lstT_at (i := 0) rfl
              have lb : pev (.iaddr 3) [lstT [c, b], .i 1] = some (.iptr b.cells) := lstT_at (i := 1) rfl
              have fb := T.bb_fits hb
              simp only [chkL]
              cases hnum : numOf c with
              | none => simp [f149, f149b, e1, e2, e3, e5, e6, hu, hv, optL, resU, lx, lc, hnum, optI]
              | some n =>
                have e7 := fun S => @s264 S n now (numOf_lt hnum) hn
                unfold chkN
                cases hs : b.same (tHash body) with
                | false => simp [f149, f149b, e1, e2, e3, e5, e6, hu, hv, optL, resU, lx, lc, lb, hnum, optI, fb, hs]
                | true =>
                  by_cases h5 : (n - now).natAbs > 5
                  · rw [if_pos h5] at e7
                    simp [f149, f149b, e1, e2, e3, e5, e6, e7, hu, hv, optL, resU, lx, lc, lb, hnum, optI, fb, hs]
                    omega
                  · rw [if_neg h5] at e7
                    have h5' : ¬ (5 : Int) < ((n - now).natAbs : Int) := by omega
                    have h5'' : ¬ 5 < (n - now).natAbs := by omega
                    simp [f149, f149b, e1, e2, e3, e5, e6, e7, hu, hv, optL, resU, lx, lc, lb, hnum, optI, fb, hs, h5', h5'']
        · simp [f149, f149b, e1, e2, e3, hu, optL, resU, lx, h4, h0]
end
end Abs

namespace Abs
open Go

def otpB : ByteArray := ⟨#[111, 116, 112]⟩
def codeB : ByteArray := ⟨#[99, 111, 100, 101]⟩
def spkB : ByteArray := ⟨#[115, 112, 97, 107, 101]⟩
def facB : ByteArray := ⟨#[102, 97, 99, 116, 111, 114]⟩
def tOffer (n : T) : T := tPack otpB [n]
def tCode (ak l c : T) : T := tPack otpB [tSeal ak 45 (tPack codeB [l, c])]
def ansO (ak offer c : T) : T × Int := match unpT otpB 1 offer with
  | some [x] => (tCode ak x c, 0)
  | _ => (tZ, 2)
def tMsk (x u : T) : T := tMask (tPub x) (tWd u)
def tPoint (u y : T) : T := tPack spkB [tMsk y u]
def expP (u w : T) (p : T) : T × Int := if p.kind = 8 then (match p.kids with
  | [x] => if w.same (tWd u) then (x, 0) else (tZ, 6)
  | _ => (tZ, 2)) else (tZ, 2)
def expT (u t : T) : T × Int := if t.kind = 10 then (match t.kids with
  | [p, w] => expP u w p
  | _ => (tZ, 2)) else (tZ, 2)
def xKey (x y u o a b : T) (n : Int) : T := tSecond (tShare x y) (tWd u) o a (tHash b) n
def tFac (x y u o a b : T) : T := tSeal (xKey x y u o a b 1) 60 (tPack facB [])
def ansP (u b x l : T) (r : T × Int) : T × T × Int := if r.2 = 0 then (tPack spkB [tMsk x u, tFac x r.1 u l (tMsk x u) b], xKey x r.1 u l (tMsk x u) b 0, 0) else (tZ, tZ, r.2)
def ansS (u b o x : T) : T × T × Int := match unpT spkB 1 o with
  | some [l] => ansP u b x l (expT u l)
  | _ => (tZ, tZ, 2)
def chkP (u b y l f : T) (r : T × Int) : T × Int := if r.2 = 0 then (if f.same (tFac r.1 y u (tMsk y u) l b) then (xKey r.1 y u (tMsk y u) l b 0, 0) else (tZ, 6)) else (tZ, r.2)
def chkS (u b y p : T) : T × Int := match unpT spkB 2 p with
  | some [l, f] => chkP u b y l f (expT u l)
  | _ => (tZ, 2)
def exC (x y u o a b : T) : List AV := x.cells ++ (y.cells ++ (u.cells ++ (o.cells ++ (a.cells ++ b.cells))))
/- Share of two is told -/
def ShOk (x y : T) : Prop := ∀ S, call 127 [.agg x.cells, .agg y.cells] S = some (.agg (tShare x y).cells, S)
theorem exC_def {x y u o a b : T} : exC x y u o a b = [.sc (.int .i64 x.kind), .sc (.string x.name), lstT x.kids, .sc (.int .i64 y.kind), .sc (.string y.name), lstT y.kids, .sc (.int .i64 u.kind), .sc (.string u.name), lstT u.kids,
    .sc (.int .i64 o.kind), .sc (.string o.name), lstT o.kids, .sc (.int .i64 a.kind), .sc (.string a.name), lstT a.kids, .sc (.int .i64 b.kind), .sc (.string b.name), lstT b.kids] := by
  unfold exC; rw [cells_T x, cells_T y, cells_T u, cells_T o, cells_T a, cells_T b]; rfl
section
variable {x y u o a b : T}
@[simp] theorem exC_len : (exC x y u o a b).length = 18 := by rw [exC_def]; rfl
@[simp] theorem exC_t0 : (exC x y u o a b).take 3 = x.cells := by rw [exC_def, cells_T x]; rfl
@[simp] theorem exC_t3 : ((exC x y u o a b).drop 3).take 3 = y.cells := by rw [exC_def, cells_T y]; rfl
@[simp] theorem exC_t6 : ((exC x y u o a b).drop 6).take 3 = u.cells := by rw [exC_def, cells_T u]; rfl
@[simp] theorem exC_t9 : ((exC x y u o a b).drop 9).take 3 = o.cells := by rw [exC_def, cells_T o]; rfl
@[simp] theorem exC_t12 : ((exC x y u o a b).drop 12).take 3 = a.cells := by rw [exC_def, cells_T a]; rfl
@[simp] theorem exC_t15 : ((exC x y u o a b).drop 15).take 3 = b.cells := by rw [exC_def, cells_T b]; rfl
@[simp] theorem exC_t15' : (exC x y u o a b).drop 15 = b.cells := by rw [exC_def, cells_T b]; rfl
@[simp] theorem exC_t18 : (exC x y u o a b).take 18 = exC x y u o a b := by rw [exC_def]; rfl
@[simp] theorem exC_nrm : nrmL (exC x y u o a b) = exC x y u o a b := by rw [exC_def]; simp [lstT_nrm]
theorem exC_cell : (exC x y u o a b).all AV.isCell = true := by rw [exC_def]; simp
@[simp] theorem exC_cell' : (∀ v : AV, v ∈ exC x y u o a b → v.isCell = true) = True := eq_true (List.all_eq_true.1 exC_cell)
end
theorem i45 : inI 45 := by unfold inI; omega
theorem i60 : inI 60 := by unfold inI; omega
theorem i1 : inI 1 := by unfold inI; omega
theorem i0 : inI 0 := by unfold inI; omega
section
variable {S : AS}
theorem s157 {n : T} : call 157 [.agg n.cells] S = some (.agg (tOffer n).cells, S) := by
  rw [call_calm a157 rfl (by simp) rfl]
  have e1 : ∀ S, call 62 [.s ⟨#[111, 116, 112]⟩, .lst 3 true [n.cells]] S = some (.agg (tOffer n).cells, S) := fun S => p62 isTs1 (by show 2 * 48 ≤ _; omega)
  simp [f157, f157b, e1]
theorem s156 {ak o c : T} (ho : o.bb) : call 156 [.agg ak.cells, .agg o.cells, .agg c.cells] S = some (resU (ansO ak o c), S) := by
  rw [call_calm a156 rfl (by simp) rfl]
  have e1 := fun S => @s78 S otpB 1 o (by have := T.bb_len ho; omega)
  simp only [otpB] at e1
  unfold ansO
  cases hu : unpT otpB 1 o with
  | none =>
    simp only [otpB] at hu
    simp [f156, f156b, e1, hu, optL, resU, tZ, T.cells, rowsT]
    rfl
  | some l =>
    obtain ⟨hl, hm⟩ := unpT_len (n := 1) hu
    match l, hl with
    | [x], _ =>
      simp only [otpB] at hu
      have lx : pev (.iaddr 3) [lstT [x], .i 0] = some (.iptr x.cells) := lstT_at (i := 0) rfl
      have e2 : ∀ S, call 62 [.s ⟨#[99, 111, 100, 101]⟩, .lst 3 true [x.cells, c.cells]] S = some (.agg (tPack codeB [x, c]).cells, S) := fun S => p62 isTs2 (by show 3 * 48 ≤ _; omega)
      have e3 := fun S => @s261 S ak (tPack codeB [x, c]) 45 i45
      have e4 : ∀ S, call 62 [.s ⟨#[111, 116, 112]⟩, .lst 3 true [(tSeal ak 45 (tPack codeB [x, c])).cells]] S = some (.agg (tCode ak x c).cells, S) := fun S => p62 isTs1 (by show 2 * 48 ≤ _; omega)
      simp [f156, f156b, e1, hu, optL, resU, lx, e2, e3, e4]
@[simp] theorem s269 {x u : T} : call 269 [.agg x.cells, .agg u.cells] S = some (.agg (tMsk x u).cells, S) := by
  rw [call_calm a269 rfl (by simp) rfl]
  simp [f269, f269b, tMsk]
theorem s153 {u y : T} : call 153 [.agg u.cells, .agg y.cells] S = some (.agg (tPoint u y).cells, S) := by
  rw [call_calm a153 rfl (by simp) rfl]
  have e1 : ∀ S, call 62 [.s ⟨#[115, 112, 97, 107, 101]⟩, .lst 3 true [(tMsk y u).cells]] S = some (.agg (tPoint u y).cells, S) := fun S => p62 isTs1 (by show 2 * 48 ≤ _; omega)
  simp [f153, f153b, e1]
theorem s272 {x y u o a b : T} {n : Int} (hs : ShOk x y) (hn : inI n) : call 272 [.agg (exC x y u o a b), .sc (.int .i64 n)] S = some (.agg (xKey x y u o a b n).cells, S) := by
  rw [call_calm a272 rfl (by simp) rfl]
  have e1 := hs
  unfold ShOk at e1
  have e2 := fun S => @s364 S (tShare x y) (tWd u) o a (tHash b) n hn
  simp [f272, f272b, e1, e2, xKey, exC_cell']
theorem s271 {x y u o a b : T} (hs : ShOk x y) : call 271 [.agg (exC x y u o a b)] S = some (.agg (tFac x y u o a b).cells, S) := by
  rw [call_calm a271 rfl (by simp) rfl]
  have e1 := fun S => @s272 S x y u o a b 1 hs i1
  have e2 : ∀ S, call 62 [.s ⟨#[102, 97, 99, 116, 111, 114]⟩, .lst 0 true []] S = some (.agg (tPack facB []).cells, S) := fun S => p62 isTs_nil (by show 1 * 48 ≤ _; omega)
  have e3 := fun S => @s261 S (xKey x y u o a b 1) (tPack facB []) 60 i60
  simp [f271, f271b, e1, e2, e3, tFac, exC_cell']
theorem s270 {u t : T} (ht : t.bb) : call 270 [.agg t.cells, .agg u.cells] S = some (resU (expT u t), S) := by
  rw [call_calm a270 rfl (by simp) rfl]
  unfold expT
  by_cases h1 : t.kind = 10
  · rw [if_pos h1]
    by_cases h2 : t.kids.length = 2
    · obtain ⟨p, w, hpw⟩ : ∃ p w, t.kids = [p, w] := by
        match hl : t.kids, h2 with
        | [p, w], _ => exact ⟨p, w, rfl⟩
      have l0 : pev (.iaddr 3) [lstT t.kids, .i 0] = some (.iptr p.cells) := lstT_at (i := 0) (by rw [hpw]; rfl)
      have l1 : pev (.iaddr 3) [lstT t.kids, .i 1] = some (.iptr w.cells) := lstT_at (i := 1) (by rw [hpw]; rfl)
      have fw : w.fits := T.bb_fits (T.bb_kids ht w (by rw [hpw]; simp))
      have h2' : (t.kids.length : Int) = 2 := by omega
      have hr : (match t.kids with | [p, w] => expP u w p | _ => (tZ, 2)) = expP u w p := by rw [hpw]
      rw [hr]
      unfold expP
      by_cases h3 : p.kind = 8
      · rw [if_pos h3]
        by_cases h4 : p.kids.length = 1
        · obtain ⟨x, hx⟩ : ∃ x, p.kids = [x] := by
            match hl : p.kids, h4 with
            | [x], _ => exact ⟨x, rfl⟩
          have l2 : pev (.iaddr 3) [lstT p.kids, .i 0] = some (.iptr x.cells) := lstT_at (i := 0) (by rw [hx]; rfl)
          have h4' : (p.kids.length : Int) = 1 := by omega
          have hr : (match p.kids with | [x] => if w.same (tWd u) then (x, (0 : Int)) else (tZ, 6) | _ => (tZ, 2)) = if w.same (tWd u) then (x, 0) else (tZ, 6) := by rw [hx]
          rw [hr]
          cases hs : w.same (tWd u) with
          | true => simp [f270, f270b, eq_true h1, h2', l0, l1, l2, fw, eq_true h3, h4', hs, resU]
          | false =>
            simp [f270, f270b, eq_true h1, h2', l0, l1, l2, fw, eq_true h3, h4', hs, resU, tZ, T.cells, rowsT]
            rfl
        · have hr : (match p.kids with | [x] => if w.same (tWd u) then (x, (0 : Int)) else (tZ, 6) | _ => (tZ, 2)) = (tZ, 2) := by
            split
            · rename_i heq; rw [heq] at h4; simp at h4
            · rfl
          have h4' : ¬ (p.kids.length : Int) = 1 := by omega
          rw [hr]
          simp [f270, f270b, eq_true h1, h2', l0, l1, eq_true h3, h4', resU, tZ, T.cells, rowsT]
          rfl
      · rw [if_neg h3]
        simp [f270, f270b, eq_true h1, h2', l0, l1, h3, resU, tZ, T.cells, rowsT]
        rfl
    · have hr : (match t.kids with | [p, w] => expP u w p | _ => (tZ, 2)) = (tZ, 2) := by
        split
        · rename_i heq; rw [heq] at h2; simp at h2
        · rfl
      have h2' : ¬ (t.kids.length : Int) = 2 := by omega
      rw [hr]
      simp [f270, f270b, eq_true h1, h2', resU, tZ, T.cells, rowsT]
      rfl
  · rw [if_neg h1]
    simp [f270, f270b, h1, resU, tZ, T.cells, rowsT]
    rfl
def resA (r : T × T × Int) : AV := .tup [.agg r.1.cells, .agg r.2.1.cells, .sc (.int .i64 r.2.2)]
theorem spk_build {x y u o a b : T} : pev (.build [.i 0, .s ⟨#[]⟩, .lst 0 true [], .i 0, .s ⟨#[]⟩, .lst 0 true [], .i 0, .s ⟨#[]⟩, .lst 0 true [], .i 0, .s ⟨#[]⟩, .lst 0 true [], .i 0, .s ⟨#[]⟩, .lst 0 true [], .i 0, .s ⟨#[]⟩, .lst 0 true []] [(0, 3), (3, 3), (6, 3), (9, 3), (12, 3), (15, 3)])
    [.agg x.cells, .agg y.cells, .agg u.cells, .agg o.cells, .agg a.cells, .agg b.cells] = some (.agg (exC x y u o a b)) := by
  rw [exC_def, cells_T x, cells_T y, cells_T u, cells_T o, cells_T a, cells_T b]
  simp
set_option maxHeartbeats 1000000 in
theorem s154 {u b o x : T} (ho : o.bb) (hs : ∀ l y, unpT spkB 1 o = some [l] → expT u l = (y, 0) → ShOk x y) : call 154 [.agg u.cells, .agg b.cells, .agg o.cells, .agg x.cells] S = some (resA (ansS u b o x), S) := by
  rw [call_calm a154 rfl (by simp) rfl]
  have e1 := fun S => @s78 S spkB 1 o (by have := T.bb_len ho; omega)
  simp only [spkB] at e1
  unfold ansS
  cases hu : unpT spkB 1 o with
  | none =>
    simp only [spkB] at hu
    simp [f154, f154b, e1, hu, optL, resA, tZ, T.cells, rowsT]
    rfl
  | some l =>
    obtain ⟨hl, hm⟩ := unpT_len (n := 1) hu
    match l, hl with
    | [l], _ =>
      have hs' := hs l
      have hl := T.bb_kids ho l (hm l (by simp))
      have ll : pev (.iaddr 3) [lstT [l], .i 0] = some (.iptr l.cells) := lstT_at (i := 0) rfl
      have e2 := fun S => @s270 S u l hl
      simp only
      cases hr : expT u l with
      | mk y er =>
        rw [hr] at e2
        have hs2 := fun y' => hs' y' hu
        simp only [spkB] at hu
        unfold ansP
        by_cases h0 : er = 0
        · subst h0
          have hsy := hs2 y hr
          have e3 := fun S => @s271 S x y u l (tMsk x u) b hsy
          have e4 := fun S => @s272 S x y u l (tMsk x u) b 0 hsy i0
          have e5 : ∀ S, call 62 [.s ⟨#[115, 112, 97, 107, 101]⟩, .lst 3 true [(tMsk x u).cells, (tFac x y u l (tMsk x u) b).cells]] S = some (.agg (tPack spkB [tMsk x u, tFac x y u l (tMsk x u) b]).cells, S) := fun S => p62 isTs2 (by show 3 * 48 ≤ _; omega)
          simp [-pev_build, f154, f154b, e1, hu, optL, resU, ll, e2, e3, e4, e5, spk_build, resA]
        · simp [f154, f154b, e1, hu, optL, resU, ll, e2, h0, resA, tZ, T.cells, rowsT]
          rfl
set_option maxHeartbeats 1000000 in
theorem s155 {u b y p : T} (hp : p.bb) (hs : ∀ l f x, unpT spkB 2 p = some [l, f] → expT u l = (x, 0) → ShOk x y) : call 155 [.agg u.cells, .agg b.cells, .agg y.cells, .agg p.cells] S = some (resU (chkS u b y p), S) := by
  rw [call_calm a155 rfl (by simp) rfl]
  have e1 := fun S => @s78 S spkB 2 p (by have := T.bb_len hp; omega)
  simp only [spkB] at e1
  unfold chkS
  cases hu : unpT spkB 2 p with
  | none =>
    simp only [spkB] at hu
    simp [f155, f155b, e1, hu, optL, resU, tZ, T.cells, rowsT]
    rfl
  | some l =>
    obtain ⟨hl, hm⟩ := unpT_len (n := 2) hu
    match l, hl with
    | [l, f], _ =>
      have hs' := hs l f
      have hl := T.bb_kids hp l (hm l (by simp))
      have hf := T.bb_fits (T.bb_kids hp f (hm f (by simp)))
      have ll : pev (.iaddr 3) [lstT [l, f], .i 0] = some (.iptr l.cells) := lstT_at (i := 0) rfl
      have lf : pev (.iaddr 3) [lstT [l, f], .i 1] = some (.iptr f.cells) := lstT_at (i := 1) rfl
      have e2 := fun S => @s270 S u l hl
      simp only
      cases hr : expT u l with
      | mk x er =>
        rw [hr] at e2
        have hs2 := fun y' => hs' y' hu
        simp only [spkB] at hu
        unfold chkP
        by_cases h0 : er = 0
        · subst h0
          have hsy := hs2 x hr
          have e3 := fun S => @s271 S x y u (tMsk y u) l b hsy
          have e4 := fun S => @s272 S x y u (tMsk y u) l b 0 hsy i0
          cases hsm : f.same (tFac x y u (tMsk y u) l b) with
          | true => simp [-pev_build, f155, f155b, e1, hu, optL, resU, ll, lf, e2, e3, e4, spk_build, hf, hsm]
          | false =>
            simp [-pev_build, f155, f155b, e1, hu, optL, resU, ll, lf, e2, e3, e4, spk_build, hf, hsm]
            simp [tZ, T.cells, rowsT]
            rfl
        · simp [f155, f155b, e1, hu, optL, resU, ll, e2, h0, tZ, T.cells, rowsT]
          rfl
end
end Abs

namespace Abs
open Go

/- numbers in a block -/
def Mem (S : AS) (id : Nat) (l : List Int) : Prop := S.heap id = some (.rows 1 (iRow l))

theorem iRow_at {l : List Int} {i : Nat} {x : Int} (h : l[i]? = some x) : (iRow l)[i]? = some [.sc (.int .i64 x)] := by simp [iRow, h]
section
variable {S : AS} {id : Nat} {l : List Int}
theorem Mem.ld (h : Mem S id l) {i : Nat} {x : Int} (hx : l[i]? = some x) {d : Option Nat} {rg : Nat → Option (List AV)} : opev (.ld none 1 false) d rg S [.ptr id i 0] = some (.sc (.int .i64 x), none, S) := by
  rw [opev_ld_ptr h, iRow_at hx]; rfl
theorem Mem.st (h : Mem S id l) (hro : S.ro ≤ id) {i : Nat} {x : Int} (hi : i < l.length) {d : Option Nat} {rg : Nat → Option (List AV)} : opev (.st none 1) d rg S [.ptr id i 0, .sc (.int .i64 x)] = some (.junk, none, S.set id (some (.rows 1 (iRow (l.set i x))))) := by
  obtain ⟨y, hy⟩ := get_of_lt hi
  unfold Mem at h
  have e : (iRow l).set i [.sc (.int .i64 x)] = iRow (l.set i x) := by simp [iRow, List.map_set]
  simp [opev, h, hro, iRow_at hy, ← e]
theorem Mem.set {l' : List Int} : Mem (S.set id (some (.rows 1 (iRow l')))) id l' := if_pos rfl
theorem setRows_iRow {i n : Nat} (h : i + n ≤ l.length) : setRows (iRow l) i (List.replicate n [.i 0]) = iRow (l.take i ++ (List.replicate n 0 ++ l.drop (i + n))) := by
  simp [setRows, iRow, List.map_take, List.map_drop]
/- one block alone is written -/
structure Upd (S S' : AS) (id : Nat) : Prop where
  n : S'.n = S.n
  ro : S'.ro = S.ro
  h : ∀ j, j ≠ id → S'.heap j = S.heap j
theorem Upd.refl : Upd S S id := ⟨rfl, rfl, fun _ _ => rfl⟩
theorem Upd.set {S' : AS} (h : Upd S S' id) {o : Option AObj} : Upd S (S'.set id o) id := ⟨h.n, h.ro, fun j hj => by
  show (if j = id then o else S'.heap j) = _
  rw [if_neg hj]; exact h.h j hj⟩
theorem Mem.clear (h : Mem S id l) (hro : S.ro ≤ id) {k c : Nat} (hk : k + c ≤ l.length) {lim : Option Nat} :
    ∃ S' l', (∀ (d : Option Nat) (rg : Nat → Option (List AV)), opev (.clearS 1 [.i 0]) d rg S [.arr id 1 k c lim] = some (.tup [], none, S')) ∧ Upd S S' id ∧ Mem S' id l' ∧ l'.length = l.length ∧ l'.take k = l.take k := by
  unfold Mem at h
  by_cases h0 : c = 0
  · exact ⟨S, l, fun d rg => by simp [opev, h0], .refl, h, rfl, rfl⟩
  · have e := @setRows_iRow l k c hk
    refine ⟨S.set id (some (.rows 1 (iRow (l.take k ++ (List.replicate c 0 ++ l.drop (k + c)))))), _, fun d rg => ?_, Upd.refl.set, Mem.set, ?_, ?_⟩
    · simp [opev, h0, h, hro, e, hk]
    · simp; omega
    · rw [List.take_append_of_le_length (by simp; omega), List.take_take]; simp
theorem pev_iaddr_arr {off n i : Nat} {lim : Option Nat} (h : i < n) : pev (.iaddr 1) [.arr id 1 off n lim, .sc (.int .i64 (i : Int))] = some (.ptr id (off + i) 0) := by
  simp [pev]; omega
end
/- equal neighbours told once -/
def cmpI : List Int → List Int
  | [] => []
  | [a] => [a]
  | a :: b :: l => if a = b then cmpI (b :: l) else a :: cmpI (b :: l)
theorem cmpI_snoc : ∀ {l : List Int} {a b : Int}, cmpI (l ++ [a, b]) = if a = b then cmpI (l ++ [a]) else cmpI (l ++ [a]) ++ [b]
  | [], a, b => by
    simp only [List.nil_append, cmpI]
    split
    · rename_i h; rw [h]
    · rfl
  | [c], a, b => by
    simp only [List.singleton_append, cmpI]
    by_cases h1 : c = a
    · by_cases h2 : a = b <;> simp [h1, h2]
    · by_cases h2 : a = b <;> simp [h1, h2]
  | c :: d :: l, a, b => by
    have ih := @cmpI_snoc (d :: l) a b
    simp only [List.cons_append] at ih ⊢
    rw [cmpI, cmpI, ih]
    by_cases h1 : c = d
    · simp [h1]
    · by_cases h2 : a = b <;> simp [h1, h2]
theorem cmpI_take {l : List Int} {i : Nat} {a b : Int} (ha : l[i]? = some a) (hb : l[i + 1]? = some b) : cmpI (l.take (i + 2)) = if a = b then cmpI (l.take (i + 1)) else cmpI (l.take (i + 1)) ++ [b] := by
  have e1 : l.take (i + 1) = l.take i ++ [a] := by rw [List.take_add_one, ha]; rfl
  have e2 : l.take (i + 2) = l.take i ++ [a, b] := by rw [List.take_add_one, e1, hb]; simp
  rw [e1, e2, cmpI_snoc]
theorem cmpI_ne : ∀ {l : List Int}, l ≠ [] → cmpI l ≠ []
  | [], h => absurd rfl h
  | [a], _ => by simp [cmpI]
  | a :: b :: l, _ => by
    rw [cmpI]; split
    · exact cmpI_ne (by simp)
    · simp
theorem cmpI_len : ∀ {l : List Int}, (cmpI l).length ≤ l.length
  | [] => Nat.le_refl _
  | [a] => Nat.le_refl _
  | a :: b :: l => by
    have := @cmpI_len (b :: l)
    rw [cmpI]; split
    · simp at this ⊢; omega
    · simp at this ⊢; omega
theorem get_none {α : Type} {l : List α} {i : Nat} (h : ¬ i < l.length) : l[i]? = none := by simp; omega
theorem drop_at {α : Type} {l m : List α} {i j : Nat} (h : m.drop j = l.drop j) (hj : j ≤ i) : m[i]? = l[i]? := by
  have e := congrArg (fun x => x[i - j]?) h
  simp only [List.getElem?_drop] at e
  rwa [Nat.add_sub_cancel' hj] at e
theorem take_at {α : Type} {l m : List α} {i j : Nat} (h : m.take j = l) (hi : i < j) : m[i]? = l[i]? := by
  rw [← h, List.getElem?_take, if_pos hi]
theorem set_takeI {l : List Int} {k : Nat} {x : Int} (h : k < l.length) : (l.set k x).take (k + 1) = l.take k ++ [x] := by
  rw [List.take_add_one, List.take_set_of_le (Nat.le_refl _)]; simp [h]
/- the first that is -/
def idxF (g : Int → Bool) : List Int → Nat → Int
  | [], _ => -1
  | a :: l, i => if g a then (i : Int) else idxF g l (i + 1)
theorem idxF_drop {g : Int → Bool} {l : List Int} {i : Nat} {x : Int} (h : l[i]? = some x) : idxF g (l.drop i) i = if g x then (i : Int) else idxF g (l.drop (i + 1)) (i + 1) := by
  obtain ⟨hi, e⟩ := List.getElem?_eq_some_iff.1 h
  rw [List.drop_eq_getElem_cons hi, e, idxF]
theorem idxF_spec {g : Int → Bool} : ∀ {l : List Int} {i : Nat}, (idxF g l i = -1 ∧ l.filter (fun x => !g x) = l) ∨ ∃ j x, idxF g l i = ((i + j : Nat) : Int) ∧ l[j]? = some x ∧ g x = true ∧ (l.take j).filter (fun x => !g x) = l.take j
  | [], i => .inl ⟨rfl, rfl⟩
  | a :: l, i => by
    rw [idxF]
    cases ha : g a with
    | true => exact .inr ⟨0, a, by simp, rfl, ha, rfl⟩
    | false =>
      rcases @idxF_spec g l (i + 1) with ⟨h1, h2⟩ | ⟨j, x, h1, h2, h3, h4⟩
      · exact .inl ⟨by simpa using h1, by simp [ha, h2]⟩
      · refine .inr ⟨j + 1, x, ?_, by simpa using h2, h3, by simp [ha, h4]⟩
        simp only [Bool.false_eq_true, if_false, h1]
        omega
theorem filter_take {g : Int → Bool} {l : List Int} {i : Nat} {x : Int} (h : l[i]? = some x) : (l.take (i + 1)).filter (fun x => !g x) = if g x then (l.take i).filter (fun x => !g x) else (l.take i).filter (fun x => !g x) ++ [x] := by
  rw [List.take_add_one, h, List.filter_append]
  cases hg : g x <;> simp [hg]
section
variable {S : AS} {id : Nat} {m : List Int}
set_option maxHeartbeats 1000000 in
theorem k367 {n k : Nat} {lim : Option Nat} {cap : List AV} {g : Int → Bool} (h : Mem S id m) (hn : n ≤ m.length) (hb : n ≤ 4611686018427387904) (hc : cap.any AV.isReg = false)
    (hg : ∀ x ∈ m.take n, call k (.sc (.int .i64 x) :: cap) S = some (.sc (.bool (g x)), S)) : call 367 [.arr id 1 0 n lim, .fn k [] cap] S = some (.sc (.int .i64 (idxF g (m.take n) 0)), S) := by
  rw [call_keep a367 (by simp) rfl]
  simp only [f367]
  simp [f367b]
  have hml : (m.take n).length = n := by rw [List.length_take]; omega
  have hz : idxF g (m.take n) 0 = idxF g ((m.take n).drop 0) 0 := rfl
  rw [hz]
  refine loop_gen (α := Nat) (R := fun i r => r = some (.sc (.int .i64 (idxF g ((m.take n).drop i) i)), S)) (fun i e rg S' => i ≤ n ∧ S' = S ∧ e 0 = .arr id 1 0 n lim ∧ e 1 = .fn k [] cap ∧ e 7 = .sc (.int .i64 (n : Nat)) ∧ e 8 = .sc (.int .i64 (i : Nat))) (fun i => n - i) ?_ 0 _ _ _ ?_
  rotate_left
  · exact ⟨by omega, rfl, by simp, by simp, by simp, by simp⟩
  intro kk hkk i e rg S' ⟨hi, hS, h0, h1, h7, h8⟩ ih
  subst hS
  by_cases hc : i < n
  · obtain ⟨x, hx⟩ := get_of_lt (l := m) (i := i) (by omega)
    have hx' : (m.take n)[i]? = some x := by rw [List.getElem?_take, if_pos hc]; exact hx
    have w2 : IntKind.i64.wrap ((i : Int) + 1) = ((i + 1 : Nat) : Int) := w64 (by omega)
    have hci : (i : Int) < (n : Int) := by omega
    have hcall := hg x (List.mem_of_getElem? hx')
    have hld := fun d rg => @Mem.ld S' id m h i x hx d rg
    have hia := @pev_iaddr_arr id 0 n i lim hc
    rw [Nat.zero_add] at hia
    cases hb : g x with
    | true =>
      rw [hb] at hcall
      rw [idxF_drop hx', hb]
      simp [f367_l0, h0, h1, h7, h8, hci, hia, hld, hcall]
      rw [hkk]; simp
    | false =>
      rw [hb] at hcall
      simp [f367_l0, h0, h1, h7, h8, hci, hia, hld, hcall, w2]
      refine ih (i + 1) _ _ _ (by omega) (fun _ h => ?_) ?_
      · rw [h, idxF_drop hx', hb]; simp
      · exact ⟨by omega, rfl, by simp [h0], by simp [h1], by simp [h7], by simp⟩
  · have hi' : i = n := by omega
    subst hi'
    have hd : (m.take i).drop i = [] := by rw [← hml]; simp
    rw [hd]
    simp [f367_l0, h7, h8, idxF]
    rw [hkk]; simp
end
end Abs

namespace Abs
open Go

section
variable {S : AS} {id : Nat} {m : List Int}
theorem drop_set {l m : List Int} {k j : Nat} {x : Int} (h : m.drop j = l.drop j) (hk : k < j) : (m.set k x).drop j = l.drop j := by
  rw [List.drop_set_of_lt hk, h]
theorem drop_le {α : Type} {l m : List α} {i j : Nat} (h : m.drop i = l.drop i) (hj : i ≤ j) : m.drop j = l.drop j := by
  have e := congrArg (List.drop (j - i)) h
  rwa [List.drop_drop, List.drop_drop, Nat.add_sub_cancel' hj] at e
set_option maxHeartbeats 2000000 in
theorem k275' {n k : Nat} {lim : Option Nat} {cap : List AV} {g : Int → Bool} (h : Mem S id m) (hro : S.ro ≤ id) (hn : n ≤ m.length) (hb : n ≤ 4611686018427387904) (hc : cap.any AV.isReg = false)
    (hg : ∀ S', Upd S S' id → ∀ x ∈ m.take n, call k (.sc (.int .i64 x) :: cap) S' = some (.sc (.bool (g x)), S')) :
    ∃ S', call 275 [.arr id 1 0 n lim, .fn k [] cap] S = some (.arr id 1 0 ((m.take n).filter fun x => !g x).length lim, S') ∧ Upd S S' id ∧ ∃ m', Mem S' id m' ∧ m'.length = m.length ∧ m'.take ((m.take n).filter fun x => !g x).length = (m.take n).filter fun x => !g x := by
  have hml : (m.take n).length = n := by rw [List.length_take]; omega
  have e367 := k367 (lim := lim) h hn hb hc (fun x hx => hg S .refl x hx)
  rw [call_keep a275 (by simp) rfl]
  simp only [f275]
  rcases @idxF_spec g (m.take n) 0 with ⟨h1, h2⟩ | ⟨j, x, h1, h2, h3, h4⟩
  · rw [h1] at e367
    rw [h2, hml]
    refine ⟨S, ?_, .refl, m, h, rfl, rfl⟩
    simp [f275b, e367]
  · rw [Nat.zero_add] at h1
    rw [h1] at e367
    have hj : j < n := by
      have := (List.getElem?_eq_some_iff.1 h2).1; omega
    have w2 : IntKind.i64.wrap ((j : Int) + 1) = ((j + 1 : Nat) : Int) := w64 (by omega)
    have hj1 : ¬ ((j : Int) = -1) := by omega
    simp [f275b, e367, w2, hj1]
    refine loop_gen (α := Nat × Nat × AS × List Int) (R := fun _ r => ∃ S', r = some (.arr id 1 0 ((m.take n).filter fun x => !g x).length lim, S') ∧ Upd S S' id ∧ ∃ m', Mem S' id m' ∧ m'.length = m.length ∧ m'.take ((m.take n).filter fun x => !g x).length = (m.take n).filter fun x => !g x)
      (fun a e rg S' => a.1 ≤ n ∧ a.2.1 < a.1 ∧ a.2.1 = (((m.take n).take a.1).filter fun x => !g x).length ∧ Upd S S' id ∧ Mem S' id a.2.2.2 ∧ a.2.2.2.length = m.length ∧ a.2.2.2.take a.2.1 = ((m.take n).take a.1).filter (fun x => !g x) ∧ a.2.2.2.drop a.1 = m.drop a.1 ∧ e 0 = .arr id 1 0 n lim ∧ e 1 = .fn k [] cap ∧ e 5 = .sc (.int .i64 (a.2.1 : Nat)) ∧ e 6 = .sc (.int .i64 (a.1 : Nat))) (fun a => n - a.1) ?_ (j + 1, j, S, m) _ _ _ ?_
    rotate_left
    · have hf := filter_take (g := g) h2
      rw [h3, if_pos rfl, h4] at hf
      have hjl : ((m.take n).take j).length = j := by rw [List.length_take]; omega
      refine ⟨by simp only; omega, by simp only; omega, by simp only [hf, hjl], .refl, h, rfl, ?_, rfl, by simp, by simp, by simp, by simp⟩
      show m.take j = ((m.take n).take (j + 1)).filter _
      rw [hf, List.take_take, Nat.min_eq_left (by omega)]
    intro kk hkk ⟨q, i, S0, m'⟩ e rg S' ⟨hq, hiq, hil, hu, hM, hlen, htk, hdr, g0, g1, g5, g6⟩ ih
    simp only at hq hiq hil hM hlen htk hdr g5 g6 ih ⊢
    have hro' : S'.ro ≤ id := by rw [hu.ro]; exact hro
    by_cases hc : q < n
    · obtain ⟨y, hy⟩ := get_of_lt (l := m) (i := q) (by omega)
      have hy' : (m.take n)[q]? = some y := by rw [List.getElem?_take, if_pos hc]; exact hy
      have hym : m'[q]? = some y := by rw [drop_at hdr (Nat.le_refl _)]; exact hy
      have w3 : IntKind.i64.wrap ((q : Int) + 1) = ((q + 1 : Nat) : Int) := w64 (by omega)
      have w4 : IntKind.i64.wrap ((i : Int) + 1) = ((i + 1 : Nat) : Int) := w64 (by omega)
      have hcq : (q : Int) < (n : Int) := by omega
      have hcall := hg S' hu y (List.mem_of_getElem? hy')
      have hld := fun d rg => @Mem.ld S' id m' hM q y hym d rg
      have hia := @pev_iaddr_arr id 0 n q lim hc
      rw [Nat.zero_add] at hia
      have hii := @pev_iaddr_arr id 0 n i lim (by omega)
      rw [Nat.zero_add] at hii
      have hf := filter_take (g := g) hy'
      cases hb : g y with
      | true =>
        rw [hb] at hcall
        rw [hb, if_pos rfl] at hf
        simp [f275_l0, g0, g1, g5, g6, hcq, hia, hld, hcall, w3]
        refine ih (q + 1, i, S0, m') _ _ _ (by omega) (fun _ h => h) ?_
        exact ⟨by simp only; omega, by simp only; omega, by simp only [hf]; exact hil, hu, hM, hlen, by simp only [hf]; exact htk, drop_le hdr (by omega), by simp [g0], by simp [g1], by simp [g5], by simp⟩
      | false =>
        rw [hb] at hcall
        rw [hb, if_neg (by simp)] at hf
        have hst := fun d rg => @Mem.st S' id m' hM hro' i y (by omega) d rg
        simp [f275_l0, g0, g1, g5, g6, hcq, hia, hii, hld, hcall, w3, w4, hst]
        refine ih (q + 1, i + 1, S0, m'.set i y) _ _ _ (by omega) (fun _ h => h) ?_
        refine ⟨by simp only; omega, by simp only; omega, by simp only [hf, List.length_append, List.length_singleton, ← hil], hu.set, Mem.set, by simp only [List.length_set]; exact hlen, ?_, ?_, by simp [g0], by simp [g1], by simp, by simp⟩
        · simp only [hf]; rw [set_takeI (by omega), htk]
        · exact drop_set (drop_le hdr (by omega)) (by omega)
    · have hi' : q = n := by omega
      subst hi'
      obtain ⟨S2, m2, hcl, hu2, hM2, hl2, ht2⟩ := hM.clear hro' (k := i) (c := q - i) (lim := lim) (by omega)
      have htq : (m.take q).take q = m.take q := by rw [List.take_take, Nat.min_self]
      rw [htq] at hil htk
      have hin : (i : Int) ≤ (q : Int) := by omega
      have h0i : (0 : Int) ≤ (i : Int) := by omega
      have hsl : pev (.sliceL 1 true false false) [.arr id 1 0 q lim, .sc (.int .i64 (i : Int))] = some (.arr id 1 i (q - i) lim) := by
        simp [pev, bound]; omega
      have hsl2 : pev (.sliceL 1 false true false) [.arr id 1 0 q lim, .sc (.int .i64 (i : Int))] = some (.arr id 1 0 i lim) := by
        simp [pev, bound]; omega
      simp [f275_l0, g0, g6]
      rw [hkk]
      simp [g0, g5, hsl, hsl2, hcl]
      refine ⟨S2, ⟨hil, rfl⟩, ⟨hu2.n.trans hu.n, hu2.ro.trans hu.ro, fun j hj => (hu2.h j hj).trans (hu.h j hj)⟩, m2, hM2, by omega, ?_⟩
      rw [← hil, ht2, htk]
end
end Abs

namespace Abs
open Go

section
variable {S : AS} {id : Nat} {m : List Int}
/- what Compact gives -/
def CmpR (S : AS) (id : Nat) (m : List Int) (lim : Option Nat) (r : Option (AV × AS)) : Prop := ∃ S', r = some (.arr id 1 0 (cmpI m).length lim, S') ∧ Upd S S' id ∧ ∃ m', Mem S' id m' ∧ m'.length = m.length ∧ m'.take (cmpI m).length = cmpI m
/- behind the first like pair -/
def Inv276 (S : AS) (id : Nat) (m : List Int) (lim : Option Nat) (k0 : Nat) (a : Nat × Nat × List Int) (e : Nat → AV) (S' : AS) : Prop :=
  k0 + a.1 + 1 ≤ m.length ∧ a.2.1 ≤ k0 + a.1 ∧ a.2.1 = (cmpI (m.take (k0 + a.1 + 1))).length ∧ Upd S S' id ∧ Mem S' id a.2.2 ∧ a.2.2.length = m.length ∧ a.2.2.take a.2.1 = cmpI (m.take (k0 + a.1 + 1)) ∧ a.2.2.drop (k0 + a.1) = m.drop (k0 + a.1) ∧
  e 0 = .arr id 1 0 m.length lim ∧ e 3 = .sc (.int .i64 (a.2.1 : Nat)) ∧ e 4 = .arr id 1 k0 (m.length - k0) lim ∧ e 5 = .sc (.int .i64 ((a.1 : Int) + 1))
set_option maxHeartbeats 2000000 in
theorem k276 {lim : Option Nat} (h : Mem S id m) (hro : S.ro ≤ id) (hb : m.length ≤ 4611686018427387904) : CmpR S id m lim (call 276 [.arr id 1 0 m.length lim] S) := by
  rw [call_keep a276 (by simp) rfl]
  simp only [f276]
  by_cases hl : m.length < 2
  · have hli : (m.length : Int) < 2 := by omega
    have hc : cmpI m = m := by
      match m, hl with
      | [], _ => rfl
      | [a], _ => rfl
    refine ⟨S, ?_, .refl, m, h, rfl, by rw [hc]; exact List.take_length⟩
    simp [f276b, hli, hc]
  · have hli : ¬ (m.length : Int) < 2 := by omega
    simp [f276b, hli]
    refine loop_gen (α := Nat) (R := fun _ r => CmpR S id m lim r) (fun i e rg S' => i + 1 ≤ m.length ∧ S' = S ∧ cmpI (m.take (i + 1)) = m.take (i + 1) ∧ e 0 = .arr id 1 0 m.length lim ∧ e 3 = .sc (.int .i64 ((i : Int) + 1))) (fun i => m.length - i) ?_ 0 _ _ _ ?_
    rotate_left
    · refine ⟨by omega, rfl, ?_, by simp, by simp⟩
      match m, hl with
      | [], hl => simp at hl
      | a :: l, _ => simp [cmpI]
    intro kk hkk i e rg S' ⟨hi, hS, hcm, h0, h3⟩ ih
    subst hS
    by_cases hc : i + 1 < m.length
    · obtain ⟨a, ha⟩ := get_of_lt (l := m) (i := i) (by omega)
      obtain ⟨b, hb'⟩ := get_of_lt (l := m) (i := i + 1) hc
      have hci : (i : Int) + 1 < (m.length : Int) := by omega
      have la := fun d rg => @Mem.ld S' id m h i a ha d rg
      have lb := fun d rg => @Mem.ld S' id m h (i + 1) b hb' d rg
      have ia := @pev_iaddr_arr id 0 m.length i lim (by omega)
      have ib := @pev_iaddr_arr id 0 m.length (i + 1) lim hc
      rw [Nat.zero_add] at ia ib
      have ec : (((i + 1 : Nat) : Int)) = (i : Int) + 1 := by omega
      rw [ec] at ib
      have w0 : IntKind.i64.wrap (i : Int) = (i : Int) := w64 (by omega)
      have w1 : IntKind.i64.wrap ((i : Int) + 1 + 1) = (i : Int) + 1 + 1 := w64 (by omega)
      have w2 : IntKind.i64.wrap ((i : Int) + 1 - 1) = (i : Int) := by rw [w64 (by omega)]; omega
      have hct := cmpI_take ha hb'
      by_cases hab : a = b
      · subst hab
        rw [if_pos rfl] at hct
        have hsl : pev (.sliceL 1 true false false) [.arr id 1 0 m.length lim, .sc (.int .i64 ((i : Int) + 1))] = some (.arr id 1 (i + 1) (m.length - (i + 1)) lim) := by
          have h1 : (0 : Int) ≤ (i : Int) + 1 := by omega
          have h2 : ((i : Int) + 1).toNat = i + 1 := by omega
          simp [pev, bound, h1, h2]; omega
        simp [f276_l1, h0, h3, hci, ia, ib, la, lb, w0, w1, w2, hsl]
        refine loop_gen (α := Nat × Nat × List Int) (R := fun _ r => CmpR S' id m lim r) (fun x e rg S'' => Inv276 S' id m lim (i + 1) x e S'') (fun x => m.length - x.1) ?_ (0, i + 1, m) _ _ _ ?_
        rotate_left
        · refine ⟨by simp only; omega, by simp only; omega, ?_, .refl, h, rfl, ?_, rfl, by simp [h0], by simp [h3], by simp, by simp⟩
          · simp only [Nat.add_zero]
            rw [hct, hcm, List.length_take]; omega
          · simp only [Nat.add_zero]
            rw [hct, hcm]
        intro kk2 hkk2 ⟨j, k, m'⟩ e2 rg2 S2 ⟨q1, q2, q3, hu, hM, q6, q7, q8, g0, g3, g4, g5⟩ ih2
        simp only at q1 q2 q3 hM q6 q7 q8 g3 g5 ih2
        have hro' : S2.ro ≤ id := by rw [hu.ro]; exact hro
        by_cases hd : i + 1 + j + 1 < m.length
        · obtain ⟨c, hc'⟩ := get_of_lt (l := m) (i := i + 1 + j) (by omega)
          obtain ⟨d, hd'⟩ := get_of_lt (l := m) (i := i + 1 + j + 1) hd
          have hc2 : m'[i + 1 + j]? = some c := by rw [drop_at q8 (Nat.le_refl _)]; exact hc'
          have hd2 : m'[i + 1 + j + 1]? = some d := by rw [drop_at q8 (by omega)]; exact hd'
          have lc := fun d rg => @Mem.ld S2 id m' hM _ c hc2 d rg
          have ld := fun d' rg => @Mem.ld S2 id m' hM _ d hd2 d' rg
          have ic := @pev_iaddr_arr id (i + 1) (m.length - (i + 1)) j lim (by omega)
          have idd := @pev_iaddr_arr id (i + 1) (m.length - (i + 1)) (j + 1) lim (by omega)
          have ec : (((j + 1 : Nat) : Int)) = (j : Int) + 1 := by omega
          rw [ec, ← Nat.add_assoc] at idd
          have u0 : IntKind.i64.wrap (j : Int) = (j : Int) := w64 (by omega)
          have u1 : IntKind.i64.wrap ((j : Int) + 1 + 1) = ((j + 1 : Nat) : Int) + 1 := by rw [w64 (by omega)]; omega
          have u2 : IntKind.i64.wrap ((j : Int) + 1 - 1) = (j : Int) := by rw [w64 (by omega)]; omega
          have u3 : IntKind.i64.wrap ((k : Int) + 1) = ((k + 1 : Nat) : Int) := w64 (by omega)
          have hcj : (j : Int) + 1 < ((m.length - (i + 1) : Nat) : Int) := by omega
          have hct2 := cmpI_take hc' hd'
          by_cases hcd : c = d
          · subst hcd
            rw [if_pos rfl] at hct2
            simp [f276_l0, g0, g3, g4, g5, hcj, ic, idd, lc, ld, u0, u1, u2]
            refine ih2 (j + 1, k, m') _ _ _ (by omega) (fun _ h => h) ?_
            have ej : i + 1 + (j + 1) + 1 = i + 1 + j + 2 := by omega
            refine ⟨by simp only; omega, by simp only; omega, ?_, hu, hM, q6, ?_, ?_, by simp [g0], by simp [g3], by simp [g4], by simp⟩
            · simp only [ej, hct2]; exact q3
            · simp only [ej, hct2]; exact q7
            · exact drop_le q8 (by omega)
          · have hdc : ¬ d = c := fun h => hcd h.symm
            rw [if_neg hcd] at hct2
            have ik := @pev_iaddr_arr id 0 m.length k lim (by omega)
            rw [Nat.zero_add] at ik
            have st := fun d' rg => @Mem.st S2 id m' hM hro' k d (by omega) d' rg
            simp [f276_l0, g0, g3, g4, g5, hcj, ic, idd, lc, ld, u0, u1, u2, u3, hdc, ik, st]
            refine ih2 (j + 1, k + 1, m'.set k d) _ _ _ (by omega) (fun _ h => h) ?_
            have ej : i + 1 + (j + 1) + 1 = i + 1 + j + 2 := by omega
            refine ⟨by simp only; omega, by simp only; omega, ?_, hu.set, Mem.set, by simp only [List.length_set]; exact q6, ?_, ?_, by simp [g0], by simp, by simp [g4], by simp⟩
            · simp only [ej, hct2, List.length_append, List.length_singleton, ← q3]
            · simp only [ej, hct2]; rw [set_takeI (by omega), q7]
            · exact drop_set (drop_le q8 (by omega)) (by omega)
        · have hj : i + 1 + j + 1 = m.length := by omega
          rw [hj, List.take_length] at q3 q7
          obtain ⟨S3, m3, hcl, hu3, hM3, hl3, ht3⟩ := hM.clear hro' (k := k) (c := m.length - k) (lim := lim) (by omega)
          have hsl1 : pev (.sliceL 1 true false false) [.arr id 1 0 m.length lim, .sc (.int .i64 (k : Int))] = some (.arr id 1 k (m.length - k) lim) := by
            simp [pev, bound]; omega
          have hsl2 : pev (.sliceL 1 false true false) [.arr id 1 0 m.length lim, .sc (.int .i64 (k : Int))] = some (.arr id 1 0 k lim) := by
            simp [pev, bound]; omega
          have hcj : ¬ (j : Int) + 1 < ((m.length - (i + 1) : Nat) : Int) := by omega
          simp [f276_l0, g4, g5, hcj]
          rw [hkk2]
          simp [g0, g3, hsl1, hsl2, hcl]
          rw [hkk]
          simp
          exact ⟨S3, by rw [q3], ⟨hu3.n.trans hu.n, hu3.ro.trans hu.ro, fun j hj => (hu3.h j hj).trans (hu.h j hj)⟩, m3, hM3, by omega, by rw [← q3, ht3, q7]⟩
      · have hba : ¬ b = a := fun h => hab h.symm
        rw [if_neg hab] at hct
        have w3 : IntKind.i64.wrap ((i : Int) + 1 + 1) = ((i + 1 : Nat) : Int) + 1 := by rw [w64 (by omega)]; omega
        simp [f276_l1, h0, h3, hci, ia, ib, la, lb, w0, w2, w3, hba]
        refine ih (i + 1) _ _ _ (by omega) (fun _ h => h) ?_
        refine ⟨by omega, rfl, ?_, by simp [h0], by simp⟩
        have e2 : m.take (i + 2) = m.take (i + 1) ++ [b] := by rw [List.take_add_one, hb']; rfl
        show cmpI (m.take (i + 2)) = _
        rw [hct, hcm]; exact e2.symm
    · have hi' : i + 1 = m.length := by omega
      have hci : ¬ (i : Int) + 1 < (m.length : Int) := by omega
      rw [hi', List.take_length] at hcm
      simp [f276_l1, h0, h3, hci]
      rw [hkk]
      simp [h0]
      exact ⟨S', by rw [hcm], .refl, m, h, rfl, by rw [hcm]; exact List.take_length⟩
end
end Abs

namespace Abs
open Go

structure Tk where
  counter : Int
  look : Int
  sync : Int
  pending : Int
  fails : Int
  limit : Int
def Tk.cells (t : Tk) : List AV := [.sc (.int .i64 t.counter), .sc (.int .i64 t.look), .sc (.int .i64 t.sync), .sc (.int .i64 t.pending), .sc (.int .i64 t.fails), .sc (.int .i64 t.limit)]
@[simp] theorem Tk.nrm {t : Tk} : nrmL t.cells = t.cells := by simp [Tk.cells]
@[simp] theorem Tk.len {t : Tk} : t.cells.length = 6 := rfl
@[simp] theorem Tk.t0 {t : Tk} : t.cells.take 1 = [.sc (.int .i64 t.counter)] := rfl
@[simp] theorem Tk.t1 {t : Tk} : (t.cells.drop 1).take 1 = [.sc (.int .i64 t.look)] := rfl
@[simp] theorem Tk.t1' {t : Tk} : t.cells.tail.take 1 = [.sc (.int .i64 t.look)] := rfl
@[simp] theorem Tk.t2 {t : Tk} : (t.cells.drop 2).take 1 = [.sc (.int .i64 t.sync)] := rfl
@[simp] theorem Tk.t3 {t : Tk} : (t.cells.drop 3).take 1 = [.sc (.int .i64 t.pending)] := rfl
@[simp] theorem Tk.t6 {t : Tk} : t.cells.take 6 = t.cells := rfl
theorem Tk.cell {t : Tk} : t.cells.all AV.isCell = true := rfl
@[simp] theorem Tk.cell' {t : Tk} : (∀ v : AV, v ∈ t.cells → v.isCell = true) = True := eq_true (List.all_eq_true.1 Tk.cell)
def inB (n a b : Int) : Bool := decide (a ≤ n) && decide (n ≤ b)
def Tk.right (t : Tk) : Bool := inB t.counter 0 1099511627776 && (inB t.look 0 20 && (inB t.sync 0 50 && (inB t.pending 0 1099511627976 && (decide (0 ≤ t.fails) && inB t.limit 1 100))))
def rng (c : Int) (n : Nat) : List Int := (List.range n).map fun (i : Nat) => c + (i : Int)
theorem rng_len {c : Int} {n : Nat} : (rng c n).length = n := by simp [rng]
theorem rng_succ {c : Int} {n : Nat} : rng c (n + 1) = rng c n ++ [c + (n : Int)] := by simp [rng, List.range_succ]
theorem rng_mem {c x : Int} {n : Nat} : x ∈ rng c n ↔ c ≤ x ∧ x < c + (n : Int) := by
  simp only [rng, List.mem_map, List.mem_range]
  constructor
  · rintro ⟨i, hi, rfl⟩; omega
  · rintro ⟨h1, h2⟩; exact ⟨(x - c).toNat, by omega, by omega⟩
def Tk.may (t : Tk) : List Int := cmpI (sortI (t.pending :: rng t.counter ((t.look + t.sync).toNat + 1)))
def Tk.hits (t : Tk) (seed b : T) : List Int := t.may.filter fun c => b.same (tOtp seed c)
def hitL (nonce seed : T) (t : Tk) : List T → List Int × Int
  | [a, b] => if a.same nonce then (if t.right then (t.hits seed b, 0) else ([], 0)) else ([], 6)
  | _ => ([], 2)
def hitU (nonce seed : T) (t : Tk) (r : T × Int) : List Int × Int := if r.2 = 0 then (match unpT codeB 2 r.1 with | some l => hitL nonce seed t l | none => ([], 2)) else ([], r.2)
def hitT (ak nonce p seed : T) (t : Tk) : List Int × Int := match unpT otpB 1 p with
  | some [x] => hitU nonce seed t (unsT ak 45 x)
  | _ => ([], 2)
section
variable {S : AS}
theorem s365 {n a b : Int} : call 365 [.sc (.int .i64 n), .sc (.int .i64 a), .sc (.int .i64 b)] S = some (.sc (.bool (inB n a b)), S) := by
  rw [call_calm a365 rfl (by simp) rfl]
  unfold inB
  by_cases h : a ≤ n <;> simp [f365, f365b, h]
theorem s273 {t : Tk} : call 273 [.agg t.cells] S = some (.sc (.bool t.right), S) := by
  rw [call_calm a273 rfl (by simp) rfl]
  unfold Tk.right
  have e := fun S n a b => @s365 S n a b
  have t4 : (t.cells.drop 4).take 1 = [.sc (.int .i64 t.fails)] := rfl
  have t5 : (t.cells.drop 5).take 1 = [.sc (.int .i64 t.limit)] := rfl
  have t5' : t.cells.drop 5 = [.sc (.int .i64 t.limit)] := rfl
  cases h1 : inB t.counter 0 1099511627776 with
  | false => simp [f273, f273b, e, h1]
  | true =>
    cases h2 : inB t.look 0 20 with
    | false => simp [f273, f273b, e, h1, h2]
    | true =>
      cases h3 : inB t.sync 0 50 with
      | false => simp [f273, f273b, e, h1, h2, h3]
      | true =>
        cases h4 : inB t.pending 0 1099511627976 with
        | false => simp [f273, f273b, e, h1, h2, h3, h4]
        | true =>
          by_cases h5 : 0 ≤ t.fails
          · simp [f273, f273b, e, h1, h2, h3, h4, h5, t4, t5, t5']
          · simp [f273, f273b, e, h1, h2, h3, h4, h5, t4]
theorem appendA_arr {sz bytes : Nat} {s : AV} {y : List AV} {ys : List (List AV)} {v : AV} {S' : AS} (h : appendA sz bytes S s (y :: ys) = some (v, S')) : ∃ id off len lim, v = .arr id sz off len lim := by
  unfold appendA at h
  rw [if_neg (by simp)] at h
  split at h
  · split at h
    · cases h; exact ⟨_, _, _, _, rfl⟩
    · cases h
  · split at h
    · split at h
      · cases h
      · split at h
        · split at h
          · cases h; exact ⟨_, _, _, _, rfl⟩
          · split at h
            · cases h; exact ⟨_, _, _, _, rfl⟩
            · cases h
        · split at h
          · cases h; exact ⟨_, _, _, _, rfl⟩
          · split at h
            · cases h; exact ⟨_, _, _, _, rfl⟩
            · cases h
    · cases h
  · cases h
theorem Own.arr_mem {S0 : AS} {id off len : Nat} {lim : Option Nat} {l : List Int} (h : Own S0 S 1 (.arr id 1 off len lim) (iRow l)) : off = 0 ∧ len = l.length ∧ lim = none ∧ Mem S id l ∧ S0.n ≤ id ∧ id < S.n := by
  rcases h.h with ⟨z, e, _⟩ | ⟨id', e, h1, h2, h3⟩
  · cases e
  · cases e; exact ⟨rfl, by simp [iRow], rfl, h1, h2, h3⟩
theorem s277 {seed a b : T} {c : Int} {id : Nat} (hh : S.heap id = some (.rows 1 [[lstT [a, b]]])) (hc : inI c) (hb : b.fits) : call 277 [.sc (.int .i64 c), .ptr id 0 0, .iptr seed.cells] S = some (.sc (.bool (!b.same (tOtp seed c))), S) := by
  rw [call_calm a277 rfl (by simp) rfl]
  have l1 : pev (.iaddr 3) [lstT [a, b], .i 1] = some (.iptr b.cells) := lstT_at (i := 1) rfl
  have e1 := fun S => @s278 S seed c hc
  have ld := fun d rg => @opev_ld_ptr id 0 0 1 false d rg ⟨S.heap, S.n, S.n⟩ 1 _ hh
  simp at ld
  simp [f277, f277b, l1, e1, ld, hb]
end
end Abs

namespace Abs
open Go

def resH (r : List Int × Int) : AV := .tup [lstI r.1, .sc (.int .i64 r.2)]
theorem rowInt_iRow {l : List Int} : rowInt (iRow l) = some l := rowInt_intR
theorem sortI_mem {l : List Int} {x : Int} : x ∈ sortI l ↔ x ∈ l := List.mem_mergeSort
theorem cmpI_mem : ∀ {l : List Int} {x : Int}, x ∈ cmpI l → x ∈ l
  | [], x, h => h
  | [a], x, h => h
  | a :: b :: l, x, h => by
    rw [cmpI] at h
    split at h
    · exact List.mem_cons_of_mem _ (cmpI_mem h)
    · rcases List.mem_cons.1 h with rfl | h
      · exact List.mem_cons_self
      · exact List.mem_cons_of_mem _ (cmpI_mem h)
section
variable {S : AS}
theorem c274 {id : Nat} {l : List Int} (h : Mem S id l) (hro : S.ro ≤ id) (h0 : l ≠ []) (hb : l.length < 4611686018427387904) : call 274 [.arr id 1 0 l.length none] S = some (.tup [], S.set id (some (.rows 1 (iRow (sortI l))))) := by
  rw [call_ext a274 (by simp)]
  have h0' : 0 < l.length := List.length_pos_iff.2 h0
  unfold Mem at h
  have e : intR (sortI l) = iRow (sortI l) := rfl
  simp [sortIG, h, rowInt_iRow, hro, hb, h0', e]
/- the rest of HitsOtp, from the numbers on -/
theorem tail159 {S0 S' : AS} {id p : Nat} {l : List Int} {seed a b : T} (hO : Own S0 S' 1 (.arr id 1 0 l.length none) (iRow l)) (h0 : l ≠ []) (hb : l.length ≤ 1000) (hp : p < S0.n) (hh : S0.heap p = some (.rows 1 [[lstT [a, b]]])) (hf : b.fits) (hl : ∀ x ∈ l, inI x) :
    ∃ S2 S3 S4, call 274 [.arr id 1 0 l.length none] S' = some (.tup [], S2) ∧ call 276 [.arr id 1 0 l.length none] S2 = some (.arr id 1 0 (cmpI (sortI l)).length none, S3) ∧
      call 275 [.arr id 1 0 (cmpI (sortI l)).length none, .fn 277 [] [.ptr p 0 0, .iptr seed.cells]] S3 = some (.arr id 1 0 ((cmpI (sortI l)).filter fun c => b.same (tOtp seed c)).length none, S4) ∧
      S4.slice S0.n id 1 0 ((cmpI (sortI l)).filter fun c => b.same (tOtp seed c)).length = some (iRow ((cmpI (sortI l)).filter fun c => b.same (tOtp seed c))) := by
  obtain ⟨_, _, _, hM, h1, h2⟩ := hO.arr_mem
  have hro : S'.ro ≤ id := Nat.le_trans hO.ro h1
  have e274 := c274 hM hro h0 (by omega)
  have hpi : p ≠ id := by omega
  generalize hS2 : S'.set id (some (.rows 1 (iRow (sortI l)))) = S2 at e274
  have hM2 : Mem S2 id (sortI l) := by rw [← hS2]; exact Mem.set
  have u2 : Upd S' S2 id := by rw [← hS2]; exact Upd.refl.set
  have e276 := k276 (lim := none) hM2 (by rw [u2.ro]; exact hro) (by rw [sortI_len]; omega)
  rw [sortI_len] at e276
  obtain ⟨S3, e276, u3, m3, hM3, hl3, ht3⟩ := e276
  have hcl := @cmpI_len (sortI l)
  rw [sortI_len] at hl3 hcl
  have hpp : ∀ T, Upd S3 T id → T.heap p = some (.rows 1 [[lstT [a, b]]]) := fun T hT => by
    rw [hT.h p hpi, u3.h p hpi, u2.h p hpi, hO.old.heap p hp]; exact hh
  have hin : ∀ x ∈ m3.take (cmpI (sortI l)).length, inI x := fun x hx => by
    rw [ht3] at hx; exact hl x (sortI_mem.1 (cmpI_mem hx))
  obtain ⟨S4, e275, u4, m4, hM4, hl4, ht4⟩ := k275' (k := 277) (n := (cmpI (sortI l)).length) (lim := none) (cap := [.ptr p 0 0, .iptr seed.cells]) (g := fun c => !b.same (tOtp seed c)) hM3 (by rw [u3.ro, u2.ro]; exact hro) (by omega) (by omega) rfl
    (fun T hT x hx => s277 (hpp T hT) (hin x hx) hf)
  rw [ht3] at e275 ht4
  simp only [Bool.not_not] at e275 ht4
  refine ⟨S2, S3, S4, e274, e276, e275, ?_⟩
  unfold Mem at hM4
  have hfl := List.length_filter_le (fun c => b.same (tOtp seed c)) (cmpI (sortI l))
  unfold AS.slice
  rw [if_pos h1, hM4]
  have hle : 0 + ((cmpI (sortI l)).filter fun c => b.same (tOtp seed c)).length ≤ (iRow m4).length := by rw [iRow_len]; omega
  simp only [hle, and_self, if_true]
  rw [List.drop_zero]
  unfold iRow
  rw [← List.map_take, ht4]
theorem opev_appB {sz bytes : Nat} {S : AS} {s x : AV} {d : Option Nat} {rg : Nat → Option (List AV)} {v : AV} {S' : AS} {ys : List (List AV)} (hy : rowsOf sz S x = some ys) (h : opev (.append sz bytes) d rg S [s, x] = some (v, none, S')) : appendA sz bytes S s ys = some (v, S') := by
  simp only [opev, hy, Option.bind_some, Option.map_eq_some_iff] at h
  obtain ⟨r, h1, h2⟩ := h
  cases h2; exact h1
theorem inI_of {x : Int} (h : 0 ≤ x ∧ x ≤ 4611686018427387904) : inI x := by unfold inI; omega
theorem Tk.right_iff {t : Tk} : t.right = true ↔ (0 ≤ t.counter ∧ t.counter ≤ 1099511627776) ∧ (0 ≤ t.look ∧ t.look ≤ 20) ∧ (0 ≤ t.sync ∧ t.sync ≤ 50) ∧ (0 ≤ t.pending ∧ t.pending ≤ 1099511627976) ∧ 0 ≤ t.fails ∧ 1 ≤ t.limit ∧ t.limit ≤ 100 := by
  unfold Tk.right inB
  simp only [Bool.and_eq_true, decide_eq_true_eq]
theorem iRow_snoc {l : List Int} {x : Int} : iRow (l ++ [x]) = iRow l ++ [[.sc (.int .i64 x)]] := by simp [iRow]
theorem lstI_nil : lstI [] = .lst 0 false [] := rfl
set_option maxHeartbeats 4000000 in
set_option maxRecDepth 100000 in
theorem s159 {ak nonce p seed : T} {t : Tk} (hp : p.bb) : call 159 [.agg ak.cells, .agg nonce.cells, .agg p.cells, .agg seed.cells, .agg t.cells] S = some (resH (hitT ak nonce p seed t), S) := by
  rw [call_calm a159 rfl (by simp) rfl]
  have e1 := fun S => @s78 S otpB 1 p (by have := T.bb_len hp; omega)
  simp only [otpB] at e1
  have hib : pev .ibox [.agg seed.cells] = some (.iptr seed.cells) := by rw [cells_T seed]; simp [pev, lstT_lst]
  unfold hitT
  cases hu : unpT otpB 1 p with
  | none =>
    simp only [otpB] at hu
    simp [f159, f159b, hib, e1, hu, optL, resH]
    rfl
  | some l =>
    obtain ⟨hl, hm⟩ := unpT_len (n := 1) hu
    match l, hl with
    | [x], _ =>
      simp only [otpB] at hu
      have hx := T.bb_kids hp x (hm x (by simp))
      have e3 := fun S => @s263 S ak x 45 i45 (T.bb_fits hx)
      have hr := @unsT_bb ak x 45 hx
      simp only
      generalize unsT ak 45 x = r at e3 hr ⊢
      obtain ⟨y, er⟩ := r
      simp only at hr
      have lx : pev (.iaddr 3) [lstT [x], .i 0] = some (.iptr x.cells) := lstT_at (i := 0) rfl
      unfold hitU
      simp only
      by_cases h0 : er = 0
      · subst h0
        have e5 := fun S => @s78 S codeB 2 y (by have := T.bb_len hr; omega)
        simp only [codeB] at e5
        have ah : ∀ d rg (S0 : AS), opev (.alloc .heap [.lst 0 true []]) d rg S0 [] = some (.ptr S0.n 0 0, none, S0.new (.rows 1 [[.lst 0 true []]])) := fun d rg S0 => by simp [opev]
        have hst : ∀ l d rg, opev (.st none 1) d rg (AS.new ⟨S.heap, S.n, S.n⟩ (.rows 1 [[.lst 0 true []]])) [.ptr S.n 0 0, lstT l] = some (.junk, none, (AS.new ⟨S.heap, S.n, S.n⟩ (.rows 1 [[.lst 0 true []]])).set S.n (some (.rows 1 [[lstT l]]))) := fun l d rg => by
          have hn : (AS.new ⟨S.heap, S.n, S.n⟩ (.rows 1 [[.lst 0 true []]])).heap S.n = some (.rows 1 [[.lst 0 true []]]) := heap_new
          have hro : (AS.new ⟨S.heap, S.n, S.n⟩ (.rows 1 [[.lst 0 true []]])).ro = S.n := rfl
          simp [opev, hn, hro]
        cases hv : unpT codeB 2 y with
        | none =>
          simp only [codeB] at hv
          have hst0 := hst []
          simp [f159, f159b, hib, e1, e3, e5, hu, hv, optL, resU, lx, ah, hst0, resH]
          rfl
        | some m =>
          obtain ⟨hml, hmm⟩ := unpT_len (n := 2) hv
          match m, hml with
          | [a, b], _ =>
            simp only [codeB] at hv
            have ha := T.bb_fits (T.bb_kids hr a (hmm a (by simp)))
            have hb := T.bb_fits (T.bb_kids hr b (hmm b (by simp)))
            have la : pev (.iaddr 3) [lstT [a, b], .i 0] = some (.iptr a.cells) := lstT_at (i := 0) rfl
            have hst0 := hst [a, b]
            obtain ⟨S1, hS1⟩ : ∃ S1, S1 = (AS.new ⟨S.heap, S.n, S.n⟩ (.rows 1 [[.lst 0 true []]])).set S.n (some (.rows 1 [[lstT [a, b]]])) := ⟨_, rfl⟩
            rw [← hS1] at hst0
            have hh1 : S1.heap S.n = some (.rows 1 [[lstT [a, b]]]) := by rw [hS1]; exact if_pos rfl
            have hn1 : S1.n = S.n + 1 := by rw [hS1]; rfl
            have hr1 : S1.ro = S.n := by rw [hS1]; rfl
            have ld1 : ∀ d rg, opev (.ld none 1 false) d rg S1 [.ptr S.n 0 0] = some (lstT [a, b], none, S1) := fun d rg => by rw [opev_ld_ptr hh1]; rfl
            simp only [hitL]
            cases hs : a.same nonce with
            | false =>
              simp [f159, f159b, hib, e1, e3, e5, hu, hv, optL, resU, lx, ah, hst0, ld1, la, ha, hs, resH]
              rfl
            | true =>
              have e7 := fun S => @s273 S t
              cases hrt : t.right with
              | false =>
                rw [hrt] at e7
                simp [f159, f159b, hib, e1, e3, e5, e7, hu, hv, optL, resU, lx, ah, hst0, ld1, la, ha, hs, resH]
                rfl
              | true =>
                rw [hrt] at e7
                obtain ⟨t1, t2, t3, t4, t5, t6⟩ := Tk.right_iff.1 hrt
                obtain ⟨n, hn⟩ : ∃ n, n = (t.look + t.sync).toNat := ⟨_, rfl⟩
                have wA : IntKind.i64.wrap (t.counter + t.look) = t.counter + t.look := w64 (by omega)
                have wB : IntKind.i64.wrap (t.counter + t.look + t.sync) = t.counter + t.look + t.sync := w64 (by omega)
                simp only [f159]
                simp [-calmR_some, f159b, hib, e1, e3, e5, e7, hu, hv, optL, resU, lx, ah, hst0, ld1, la, ha, hs, fillR]
                refine loop_gen (α := Nat) (R := fun _ r => calmR S r = some (resH (t.hits seed b, 0), S)) (fun j e rg S' => j ≤ n + 1 ∧ e 8 = .iptr seed.cells ∧ e 9 = .reg 9 0 ∧ rg 9 = some t.cells ∧ e 16 = .ptr S.n 0 0 ∧ e 18 = .sc (.int .i64 (t.counter + (j : Nat))) ∧ Own S1 S' 1 (e 17) (iRow (t.pending :: rng t.counter j)) ∧ (0 < j → ∃ id off len lim, e 17 = .arr id 1 off len lim)) (fun j => n + 1 - j) ?_ 0 _ _ _ ?_
                rotate_left
                · refine ⟨by omega, by simp, by simp, by simp, by simp, by simp, ?_, by omega⟩
                  simp
                  exact own_lst (by omega)
                intro kk hkk j e rg S' ⟨hj, g8, g9, gr9, g16, g18, hO, harr⟩ ih
                have hvr := hO.reg
                by_cases hc : j < n + 1
                · have hcj : t.counter + (j : Nat) ≤ t.counter + t.look + t.sync := by omega
                  have w3 : IntKind.i64.wrap (t.counter + (j : Int) + 1) = t.counter + ((j + 1 : Nat) : Int) := by rw [w64 (by omega)]; omega
                  obtain ⟨v', S2, hap, hO', q1, q2, q3⟩ := hO.push (n := j + 1) (bytes := 8) (r := [.sc (.int .i64 (t.counter + (j : Nat)))]) (f := true) (d := none) (rg := fun _ => none) (by simp [iRow, rng_len]) (by omega)
                  have hap2 := opev_appB (ys := [[.sc (.int .i64 (t.counter + (j : Nat)))]]) (by simp [rowsOf]) hap
                  have hap' : ∀ d rg, opev (.append 1 8) d rg S' [e 17, .lst 1 true [[.sc (.int .i64 (t.counter + (j : Nat)))]]] = some (v', none, S2) := fun d rg => by simp [opev, rowsOf, hap2]
                  rw [← iRow_snoc, List.cons_append, ← rng_succ] at hO'
                  simp [-calmR_some, f159_l0, g9, gr9, g18, wA, wB, hcj, hvr, fillR, hap', q1, w3]
                  refine ih (j + 1) _ _ _ (by omega) (fun _ h => h) ?_
                  exact ⟨by omega, by simp [g8], by simp [g9], by simp [gr9], by simp [g16], by simp, by simpa using hO', fun _ => by obtain ⟨i1, i2, i3, i4, e⟩ := appendA_arr hap2; exact ⟨i1, i2, i3, i4, by simpa using e⟩⟩
                · have hj' : j = n + 1 := by omega
                  subst hj'
                  have hcj : ¬ t.counter + ((n : Int) + 1) ≤ t.counter + t.look + t.sync := by omega
                  obtain ⟨id, off, len, lim, h17⟩ := harr (by omega)
                  rw [h17] at hO
                  obtain ⟨rfl, rfl, rfl, _, _, _⟩ := hO.arr_mem
                  obtain ⟨S2, S3, S4, c1, c2, c3, hsl⟩ := tail159 (seed := seed) (a := a) (b := b) (p := S.n) hO (by simp) (by simp [rng_len]; omega) (by omega) hh1 hb (fun x hx => by
                    rcases List.mem_cons.1 hx with rfl | hx
                    · exact inI_of (by omega)
                    · have := rng_mem.1 hx; exact inI_of (by omega))
                  simp only [List.length_cons] at c1 c2 h17
                  have hhit : t.hits seed b = (cmpI (sortI (t.pending :: rng t.counter (n + 1)))).filter fun c => b.same (tOtp seed c) := by
                    unfold Tk.hits Tk.may; rw [hn]
                  rw [← hhit] at c3 hsl
                  rw [hn1] at hsl
                  have hsl2 : S4.slice S.n id 1 0 (t.hits seed b).length = some (iRow (t.hits seed b)) := by
                    unfold AS.slice at hsl ⊢
                    split at hsl
                    · rw [if_pos (by omega)]; exact hsl
                    · cases hsl
                  have hfz : S4.frzTo S.n 2 (.arr id 1 0 (t.hits seed b).length none) = some (lstI (t.hits seed b)) := by
                    rw [frzTo_arr hsl2]
                    simp [lstI]
                  simp [-calmR_some, f159_l0, g9, gr9, g18, wA, wB, hcj]
                  rw [hkk]
                  simp [-calmR_some, h17, g8, g16, c1, c2, c3]
                  simp [hfz, resH]
      · simp [f159, f159b, hib, e1, e3, hu, optL, resU, lx, h0, resH]
        rfl
end
end Abs

namespace Abs
open Go

instance : DecidableEq T := fun a b => decidable_of_iff (a.same b = true) T.same_iff
theorem app_nonempty' {x y : ByteArray} (h : x.size ≠ 0) : x ++ y ≠ ⟨#[]⟩ := by
  intro e
  have := congrArg ByteArray.size e
  rw [ByteArray.size_append] at this
  have h0 : (⟨#[]⟩ : ByteArray).size = 0 := rfl
  omega
theorem same_ne {a b : T} (h : a ≠ b) : a.same b = false := by rw [Bool.eq_false_iff]; exact fun e => h (T.same_iff.1 e)
theorem app_inj {p x y : ByteArray} (h : p ++ x = p ++ y) : x = y := by
  have := congrArg (fun b => b.data.toList) h
  simp only [ByteArray.data_append, Array.toList_append, List.append_cancel_left_eq] at this
  exact ba_data this
theorem tHash_inj {a b : T} : tHash a = tHash b ↔ a = b := by simp [tHash]
theorem tKdf_inj {a b : T} {m n : ByteArray} : tKdf a m = tKdf b n ↔ a = b ∧ m = n := by simp [tKdf, and_comm]
theorem tAtom_inj {m n : ByteArray} : tAtom m = tAtom n ↔ m = n := by simp [tAtom]
theorem tData_inj {m n : ByteArray} : tData m = tData n ↔ m = n := by simp [tData]
theorem tUse_inj {a b : T} {m n : Int} (hm : inI m) (hn : inI n) : tUse a m = tUse b n ↔ a = b ∧ m = n := by
  unfold tUse
  rw [tKdf_inj]
  exact ⟨fun h => ⟨h.1, itoaB_inj hm hn (app_inj h.2)⟩, fun h => ⟨h.1, by rw [h.2]⟩⟩
theorem tOtp_inj {a b : T} {m n : Int} (hm : inI m) (hn : inI n) : tOtp a m = tOtp b n ↔ a = b ∧ m = n := by
  unfold tOtp
  rw [tKdf_inj]
  exact ⟨fun h => ⟨h.1, itoaB_inj hm hn (app_inj h.2)⟩, fun h => ⟨h.1, by rw [h.2]⟩⟩
theorem tJoin_inj {a b c d : T} {f g : ByteArray} : tJoin a b f g = tJoin c d f g ↔ a = c ∧ b = d := by simp [tJoin, tHash, tPair, tKdf]
theorem tCk_inj {a b c d : T} : tCk a b = tCk c d ↔ a = c ∧ b = d := tJoin_inj
theorem tWd_inj {a b : T} : tWd a = tWd b ↔ a = b := by simp [tWd, tKdf]
theorem tMsk_inj {a b c d : T} : tMsk a b = tMsk c d ↔ a = c ∧ b = d := by simp [tMsk, tMask, tPub, tWd_inj]
theorem tSecond_inj {s w o a b s' w' o' a' b' : T} {m n : Int} (hm : inI m) (hn : inI n) : tSecond s w o a b m = tSecond s' w' o' a' b' n ↔ (s = s' ∧ w = w' ∧ o = o' ∧ a = a' ∧ b = b') ∧ m = n := by
  unfold tSecond
  rw [tUse_inj hm hn, tHash_inj]
  simp [tPair]
theorem tSeal_inj {k k' t t' : T} {m n : Int} (hm : inI m) (hn : inI n) : tSeal k m t = tSeal k' n t' ↔ (k = k' ∧ m = n) ∧ t = t' := by
  unfold tSeal
  have : ∀ {a b c d : T}, tEnc a b = tEnc c d ↔ a = c ∧ b = d := by intro a b c d; simp [tEnc]
  rw [this, tUse_inj hm hn]
theorem uns_seal {k t : T} {n : Int} : unsT k n (tSeal k n t) = (t, 0) := by
  unfold unsT
  rw [if_pos (show (tSeal k n t).kind = 4 from rfl)]
  show (if (tUse k n).same (tUse k n) then (t, (0 : Int)) else (tZ, 4)) = _
  rw [T.same_self]; rfl
theorem uns_other {k k' t : T} {n : Int} (hn : inI n) (h : k ≠ k') : unsT k' n (tSeal k n t) = (tZ, 4) := by
  unfold unsT
  rw [if_pos (show (tSeal k n t).kind = 4 from rfl)]
  show (if (tUse k n).same (tUse k' n) then (t, (0 : Int)) else (tZ, 4)) = _
  rw [same_ne (fun e => h ((tUse_inj hn hn).1 e).1)]; rfl
theorem chal_ne : chalB ≠ ⟨#[]⟩ := by decide
theorem time_ne : timeB ≠ ⟨#[]⟩ := by decide
theorem otpB_ne : otpB ≠ ⟨#[]⟩ := by decide
theorem codeB_ne : codeB ≠ ⟨#[]⟩ := by decide
theorem spk_ne : spkB ≠ ⟨#[]⟩ := by decide
/- a challenge -/
theorem chk_tag {a u b p : T} {at' : Int} (h : unpT chalB 1 p = none) : chkT a u b p at' = 2 := by unfold chkT; rw [h]
theorem chk_chal {a u b a' u' b' : T} {now at' : Int} (hn : inI now) (h18 : (itoaB now).size ≤ 18) : chkT a' u' b' (tChal a u b now) at' = if a = a' ∧ u = u' then (if b = b' then (if (now - at').natAbs > 5 then 5 else 0) else 6) else 6 := by
  unfold chkT tChal
  rw [unpT_pack (n := 1) chal_ne rfl]
  simp only
  by_cases h : a = a' ∧ u = u'
  · rw [if_pos h]
    obtain ⟨rfl, rfl⟩ := h
    rw [uns_seal]
    unfold chkU tTime
    simp only
    rw [if_neg (by decide), if_pos trivial, unpT_pack (n := 2) time_ne rfl]
    simp only [chkL]
    rw [numOf_num hn h18]
    simp only [chkN]
    by_cases hb : b = b'
    · rw [if_pos hb, hb, T.same_self]; simp
    · rw [if_neg hb, same_ne (fun e => hb (tHash_inj.1 e))]; simp
  · rw [if_neg h, uns_other i54 (fun e => h (tCk_inj.1 e))]
    rfl
/- codes -/
theorem ans_offer {ak n c : T} : ansO ak (tOffer n) c = (tCode ak n c, 0) := by
  unfold ansO tOffer; rw [unpT_pack (n := 1) otpB_ne rfl]
theorem ans_tag {ak p c : T} (h : unpT otpB 1 p = none) : ansO ak p c = (tZ, 2) := by unfold ansO; rw [h]
theorem hit_tag {ak n p s : T} {t : Tk} (h : unpT otpB 1 p = none) : hitT ak n p s t = ([], 2) := by unfold hitT; rw [h]
theorem hit_code {ak n c ak' n' s : T} {t : Tk} : hitT ak' n' (tCode ak n c) s t = if ak = ak' then (if n = n' then (if t.right then (t.hits s c, 0) else ([], 0)) else ([], 6)) else ([], 4) := by
  unfold hitT tCode
  rw [unpT_pack (n := 1) otpB_ne rfl]
  simp only
  by_cases h : ak = ak'
  · subst h
    rw [if_pos rfl, uns_seal]
    unfold hitU
    simp only
    rw [if_pos trivial, unpT_pack (n := 2) codeB_ne rfl]
    simp only [hitL]
    by_cases hn : n = n'
    · subst hn; rw [T.same_self]; simp
    · rw [same_ne hn, if_neg hn]; simp
  · rw [if_neg h, uns_other i45 h]; rfl
/- points -/
theorem exp_msk {u u' x : T} : expT u' (tMsk x u) = if u = u' then (x, 0) else (tZ, 6) := by
  unfold expT
  rw [if_pos (show (tMsk x u).kind = 10 from rfl)]
  show expP u' (tWd u) (tPub x) = _
  unfold expP
  rw [if_pos (show (tPub x).kind = 8 from rfl)]
  show (if (tWd u).same (tWd u') then (x, (0 : Int)) else (tZ, 6)) = _
  by_cases h : u = u'
  · subst h; rw [T.same_self]; simp
  · rw [same_ne (fun e => h (tWd_inj.1 e)), if_neg h]; simp
theorem ans_point {u u' b x y : T} : ansS u' b (tPoint u y) x = if u = u' then (tPack spkB [tMsk x u, tFac x y u (tMsk y u) (tMsk x u) b], xKey x y u (tMsk y u) (tMsk x u) b 0, 0) else (tZ, tZ, 6) := by
  unfold ansS tPoint
  rw [unpT_pack (n := 1) spk_ne rfl]
  simp only
  rw [exp_msk]
  by_cases h : u = u'
  · subst h; rw [if_pos rfl, if_pos rfl]; unfold ansP; rw [if_pos rfl]
  · rw [if_neg h, if_neg h]; rfl
theorem ansS_tag {u b p x : T} (h : unpT spkB 1 p = none) : ansS u b p x = (tZ, tZ, 2) := by unfold ansS; rw [h]
theorem chkS_tag {u b p x : T} (h : unpT spkB 2 p = none) : chkS u b x p = (tZ, 2) := by unfold chkS; rw [h]
theorem chk_point {u x f u' b' y' : T} : chkS u' b' y' (tPack spkB [tMsk x u, f]) = if u = u' then (if f.same (tFac x y' u (tMsk y' u) (tMsk x u) b') then (xKey x y' u (tMsk y' u) (tMsk x u) b' 0, 0) else (tZ, 6)) else (tZ, 6) := by
  unfold chkS
  rw [unpT_pack (n := 2) spk_ne rfl]
  simp only
  rw [exp_msk]
  by_cases h : u = u'
  · subst h; rw [if_pos rfl, if_pos rfl]; unfold chkP; rw [if_pos rfl]
  · rw [if_neg h, if_neg h]; rfl
theorem tFac_inj {x y u o a b x' y' u' o' a' b' : T} : tFac x y u o a b = tFac x' y' u' o' a' b' ↔ tShare x y = tShare x' y' ∧ u = u' ∧ o = o' ∧ a = a' ∧ b = b' := by
  unfold tFac xKey
  rw [tSeal_inj i60 i60, tSecond_inj i1 i1, tWd_inj, tHash_inj]
  simp
theorem xKey_inj {x y u o a b x' y' u' o' a' b' : T} : xKey x y u o a b 0 = xKey x' y' u' o' a' b' 0 ↔ tShare x y = tShare x' y' ∧ u = u' ∧ o = o' ∧ a = a' ∧ b = b' := by
  unfold xKey
  rw [tSecond_inj i0 i0, tWd_inj, tHash_inj]
  simp
/- the hits, rising -/
theorem cmpI_lt : ∀ {l : List Int}, l.Pairwise (· ≤ ·) → (cmpI l).Pairwise (· < ·)
  | [], _ => .nil
  | [a], _ => by simp [cmpI]
  | a :: b :: l, h => by
    rw [List.pairwise_cons] at h
    have ih := cmpI_lt h.2
    rw [cmpI]
    split
    · exact ih
    · rename_i hab
      rw [List.pairwise_cons]
      refine ⟨fun x hx => ?_, ih⟩
      have hx' := cmpI_mem hx
      have h1 := h.1 b List.mem_cons_self
      rcases List.mem_cons.1 hx' with rfl | hx'
      · omega
      · have := (List.pairwise_cons.1 h.2).1 x hx'; omega
theorem mem_cmpI : ∀ {l : List Int} {x : Int}, x ∈ l → x ∈ cmpI l
  | [], x, h => h
  | [a], x, h => h
  | a :: b :: l, x, h => by
    rw [cmpI]
    split
    · rename_i hab
      subst hab
      rcases List.mem_cons.1 h with rfl | h
      · exact mem_cmpI List.mem_cons_self
      · exact mem_cmpI h
    · rcases List.mem_cons.1 h with rfl | h
      · exact List.mem_cons_self
      · exact List.mem_cons_of_mem _ (mem_cmpI h)
theorem sortI_le {l : List Int} : (sortI l).Pairwise (· ≤ ·) := by
  have := List.pairwise_mergeSort (le := fun x y : Int => decide (x ≤ y)) (fun a b c h1 h2 => by simp only [decide_eq_true_eq] at *; omega) (fun a b => by simp only [Bool.or_eq_true, decide_eq_true_eq]; omega) l
  simpa [sortI] using this
theorem filter_eq : ∀ {l : List Int} {c : Int}, l.Pairwise (· < ·) → (l.filter fun x => decide (c = x)) = if c ∈ l then [c] else []
  | [], c, _ => by simp
  | a :: l, c, h => by
    rw [List.pairwise_cons] at h
    have ih := filter_eq (c := c) h.2
    by_cases hc : c = a
    · subst hc
      have hn : ¬ c ∈ l := fun hm => by have := h.1 c hm; omega
      rw [if_neg hn] at ih
      simp [ih]
    · simp [hc, ih]
theorem Tk.may_mem {t : Tk} {c : Int} : c ∈ t.may ↔ c = t.pending ∨ (t.counter ≤ c ∧ c < t.counter + ((t.look + t.sync).toNat : Int) + 1) := by
  unfold Tk.may
  constructor
  · intro h
    have h := sortI_mem.1 (cmpI_mem h)
    rcases List.mem_cons.1 h with h | h
    · exact .inl h
    · have := rng_mem.1 h; exact .inr ⟨this.1, by omega⟩
  · intro h
    apply mem_cmpI
    rw [sortI_mem]
    rcases h with rfl | ⟨h1, h2⟩
    · exact List.mem_cons_self
    · exact List.mem_cons_of_mem _ (rng_mem.2 ⟨h1, by omega⟩)
theorem hits_otp {t : Tk} {s : T} {c : Int} (hr : t.right = true) (hc : inI c) : t.hits s (tOtp s c) = if c ∈ t.may then [c] else [] := by
  have hlt : t.may.Pairwise (· < ·) := cmpI_lt sortI_le
  rw [← filter_eq hlt]
  unfold Tk.hits
  apply List.filter_congr
  intro x hx
  obtain ⟨t1, t2, t3, t4, _⟩ := Tk.right_iff.1 hr
  have hxi : inI x := by
    rcases Tk.may_mem.1 hx with h | ⟨h1, h2⟩
    · exact inI_of (by omega)
    · exact inI_of (by omega)
  by_cases h : c = x
  · subst h; rw [T.same_self]; simp
  · rw [same_ne (fun e => h ((tOtp_inj hc hxi).1 e).2)]; simp [h]
theorem hits_other {t : Tk} {s s' : T} {c : Int} (h : s ≠ s') (hr : t.right = true) (hc : inI c) : t.hits s' (tOtp s c) = [] := by
  unfold Tk.hits
  rw [List.filter_eq_nil_iff]
  intro x hx
  obtain ⟨t1, t2, t3, t4, _⟩ := Tk.right_iff.1 hr
  have hxi : inI x := by
    rcases Tk.may_mem.1 hx with h | ⟨h1, h2⟩
    · exact inI_of (by omega)
    · exact inI_of (by omega)
  rw [same_ne (fun e => h ((tOtp_inj hc hxi).1 e).1)]; simp
end Abs

namespace Abs
open Go

theorem atom_rshp {n : ByteArray} (h : n ≠ ⟨#[]⟩) : (tAtom n).rshp = true := by
  unfold tAtom
  rw [T.rshp]
  simp [T.one, knd, nmd, kdn, T.kind, T.name, T.kids, rshpL, h]
section
variable {S : AS}
theorem s227a {n : ByteArray} (h : n ≠ ⟨#[]⟩) (hs : n.size ≤ 1125899906842624) : call 227 [.agg (tAtom n).cells] S = some (.sc (.string (tAtom n).text), S) := by
  rw [call_calm a227 rfl (by simp) rfl]
  have hr := atom_rshp h
  rw [T.rshp_def, Bool.and_eq_true] at hr
  obtain ⟨h1, _, _⟩ := T.one_iff.1 hr.1
  have e58 : (⟨#[58]⟩ : ByteArray).size = 1 := rfl
  have w58 : pev (.bin .add) [.sc (.string (numB n.size)), .s ⟨#[58]⟩] = some (.sc (.string (numB n.size ++ ⟨#[58]⟩))) := pev_sadd (by have := numB20 (n := n.size) (by omega); omega)
  have wn := pev_sadd (x := numB n.size ++ ⟨#[58]⟩) (y := n) (by have := numB20 (n := n.size) (by omega); rw [ByteArray.size_append]; omega)
  have wl := pev_sadd (x := ltr 2) (y := numB n.size ++ ⟨#[58]⟩ ++ n) (by have := numB20 (n := n.size) (by omega); rw [ByteArray.size_append, ByteArray.size_append, ltr_size]; omega)
  have e193 : ∀ S, call 193 [.sc (.int .i64 (n.size : Int))] S = some (.sc (.string (numB n.size)), S) := fun S => by rw [c193 (by unfold inI; omega), itoaB_nat]
  have kA := kindAt h1
  have hk : (tAtom n).kind = 2 := rfl
  rw [hk] at kA
  have ht : (tAtom n).text = ltr 2 ++ (numB n.size ++ ⟨#[58]⟩ ++ n) := by
    rw [T.text_def]
    show hdT 2 n = _
    unfold hdT nameT
    rw [if_neg h]
  rw [ht]
  have hc : (tAtom n).cells = [.i 2, .sc (.string n), lstT []] := by rw [cells_T]; rfl
  rw [hc]
  generalize ltr 2 = L at *
  generalize numB n.size = M at *
  simp [f227, f227b, glob0, kA, h, e193, w58, wn, wl]
theorem s121a {n : ByteArray} (h : n ≠ ⟨#[]⟩) (hs : n.size ≤ 1125899906842624) : call 121 [.agg (tAtom n).cells] S = some (.sc (.string (tAtom n).txt), S) := by
  rw [call_calm a121 rfl (by simp) rfl]
  have e1 := fun S => @e221 (tAtom n) S atm_fits
  have e2 := fun S => @s227a S n h hs
  have hr : ((tAtom n).rshp && decide ((tAtom n).dp ≤ 60)) = true := by
    rw [atom_rshp h]; rfl
  unfold T.txt
  rw [hr] at e1 ⊢
  simp [f121, f121b, e1, e2]
theorem shOk_atoms {m n : ByteArray} (hm : m ≠ ⟨#[]⟩) (hn : n ≠ ⟨#[]⟩) (sm : m.size ≤ 1125899906842624) (sn : n.size ≤ 1125899906842624) : ShOk (tAtom m) (tAtom n) := by
  intro S
  rw [call_calm a127 rfl (by simp) rfl]
  have e1 : ∀ S, call 229 [.agg (tAtom n).cells, .agg (tAtom m).cells] S = some (.sc (.bool (sLt (tAtom n).txt (tAtom m).txt)), S) := fun S => by
    rw [call_calm a229 rfl (by simp) rfl]
    have e1 := fun S => @s121a S n hn sn
    have e2 := fun S => @s121a S m hm sm
    simp [f229, f229b, e1, e2]
  unfold tShare
  cases hs : sLt (tAtom n).txt (tAtom m).txt with
  | true => rw [hs] at e1; simp [f127, f127b, e1, T.cells, rowsT]
  | false => rw [hs] at e1; simp [f127, f127b, e1, T.cells, rowsT]
@[simp] theorem s162 (s : ByteArray) : call 162 [.sc (.string s)] S = some (.agg (tAtom s).cells, S) := by
  rw [call_calm a162 rfl (by simp) rfl]
  simp [f162, f162b]
end
/- five of them -/
structure Fv where
  ak : T
  user : T
  body : T
  x : T
  y : T
def Fv.cells (f : Fv) : List AV := f.ak.cells ++ (f.user.cells ++ (f.body.cells ++ (f.x.cells ++ f.y.cells)))
theorem Fv.cells_def {f : Fv} : f.cells = [.sc (.int .i64 f.ak.kind), .sc (.string f.ak.name), lstT f.ak.kids, .sc (.int .i64 f.user.kind), .sc (.string f.user.name), lstT f.user.kids, .sc (.int .i64 f.body.kind), .sc (.string f.body.name), lstT f.body.kids,
    .sc (.int .i64 f.x.kind), .sc (.string f.x.name), lstT f.x.kids, .sc (.int .i64 f.y.kind), .sc (.string f.y.name), lstT f.y.kids] := by
  unfold Fv.cells; rw [cells_T f.ak, cells_T f.user, cells_T f.body, cells_T f.x, cells_T f.y]; rfl
section
variable {f : Fv}
@[simp] theorem Fv.len : f.cells.length = 15 := by rw [Fv.cells_def]; rfl
@[simp] theorem Fv.t0 : f.cells.take 3 = f.ak.cells := by rw [Fv.cells_def, cells_T f.ak]; rfl
@[simp] theorem Fv.t3 : (f.cells.drop 3).take 3 = f.user.cells := by rw [Fv.cells_def, cells_T f.user]; rfl
@[simp] theorem Fv.t6 : (f.cells.drop 6).take 3 = f.body.cells := by rw [Fv.cells_def, cells_T f.body]; rfl
@[simp] theorem Fv.t9 : (f.cells.drop 9).take 3 = f.x.cells := by rw [Fv.cells_def, cells_T f.x]; rfl
@[simp] theorem Fv.t12 : (f.cells.drop 12).take 3 = f.y.cells := by rw [Fv.cells_def, cells_T f.y]; rfl
@[simp] theorem Fv.t12' : f.cells.drop 12 = f.y.cells := by rw [Fv.cells_def, cells_T f.y]; rfl
@[simp] theorem Fv.t15 : f.cells.take 15 = f.cells := by rw [Fv.cells_def]; rfl
@[simp] theorem Fv.dr15 : f.cells.drop 15 = [] := by rw [Fv.cells_def]; rfl
@[simp] theorem Fv.nrm : nrmL f.cells = f.cells := by rw [Fv.cells_def]; simp [lstT_nrm]
@[simp] theorem Fv.frz {S : AS} {b d : Nat} : mapO (S.frzTo b d) f.cells = some f.cells := by
  rw [Fv.cells_def]; simp [mapO]
@[simp] theorem Fv.pure : pureL f.cells = true := by rw [Fv.cells_def]; simp [pureL]
theorem Fv.cell : f.cells.all AV.isCell = true := by rw [Fv.cells_def]; simp
@[simp] theorem Fv.cell' : (∀ v : AV, v ∈ f.cells → v.isCell = true) = True := eq_true (List.all_eq_true.1 Fv.cell)
end
theorem Fv.build {f : Fv} : pev (.build [.i 0, .s ⟨#[]⟩, .lst 0 true [], .i 0, .s ⟨#[]⟩, .lst 0 true [], .i 0, .s ⟨#[]⟩, .lst 0 true [], .i 0, .s ⟨#[]⟩, .lst 0 true [], .i 0, .s ⟨#[]⟩, .lst 0 true []] [(0, 3), (3, 3), (6, 3), (9, 3), (12, 3)])
    [.agg f.ak.cells, .agg f.user.cells, .agg f.body.cells, .agg f.x.cells, .agg f.y.cells] = some (.agg f.cells) := by
  rw [Fv.cells_def, cells_T f.ak, cells_T f.user, cells_T f.body, cells_T f.x, cells_T f.y]
  simp
def akB : ByteArray := ⟨#[97, 107, 32]⟩
def usB : ByteArray := ⟨#[117, 115, 101, 114, 32]⟩
def boB : ByteArray := ⟨#[98, 111, 100, 121, 32]⟩
def xB : ByteArray := ⟨#[120, 32]⟩
def yB : ByteArray := ⟨#[121, 32]⟩
def nmF (s : ByteArray) : Fv := ⟨tAtom (akB ++ s), tAtom (usB ++ s), tData (boB ++ s), tAtom (xB ++ s), tAtom (yB ++ s)⟩
section
variable {S : AS}
theorem s152 {s : ByteArray} (hs : s.size ≤ 1125899906842624) : call 152 [.sc (.string s)] S = some (.agg (nmF s).cells, S) := by
  rw [call_calm a152 rfl (by simp) rfl]
  have z1 : akB.size = 3 := rfl
  have z2 : usB.size = 5 := rfl
  have z3 : boB.size = 5 := rfl
  have z4 : xB.size = 2 := rfl
  have z5 : yB.size = 2 := rfl
  have p1 := pev_sadd (x := akB) (y := s) (by omega)
  have p2 := pev_sadd (x := usB) (y := s) (by omega)
  have p3 := pev_sadd (x := boB) (y := s) (by omega)
  have p4 := pev_sadd (x := xB) (y := s) (by omega)
  have p5 := pev_sadd (x := yB) (y := s) (by omega)
  have hb := @Fv.build (nmF s)
  have d : ∀ n, T.mk 1 n [] = tData n := fun _ => rfl
  have e1 : (nmF s).ak = tAtom (akB ++ s) := rfl
  have e2 : (nmF s).user = tAtom (usB ++ s) := rfl
  have e3 : (nmF s).body = tData (boB ++ s) := rfl
  have e4 : (nmF s).x = tAtom (xB ++ s) := rfl
  have e5 : (nmF s).y = tAtom (yB ++ s) := rfl
  rw [e1, e2, e3, e4, e5] at hb
  have hC := @Fv.cell' (nmF s)
  have hl := @Fv.len (nmF s)
  simp only [akB, usB, boB, xB, yB] at p1 p2 p3 p4 p5 hb
  simp [-pev_build, f152, f152b, p1, p2, p3, p4, p5, d, hb]
end
end Abs

namespace Abs
open Go

theorem bb_mk {k : Int} {n : ByteArray} {l : List T} (hn : n.size ≤ 140737488355328) (hl : l.length ≤ 100) (h : ∀ u ∈ l, u.bb) : (T.mk k n l).bb := ⟨hn, by omega, bdL_iff.2 h⟩
theorem nil_sz : (⟨#[]⟩ : ByteArray).size ≤ 140737488355328 := by show 0 ≤ _; omega
theorem bb_one {k : Int} {n : ByteArray} {a : T} (hn : n.size ≤ 140737488355328) (h : a.bb) : (T.mk k n [a]).bb := bb_mk hn (by simp) (by simpa using h)
theorem bb_two {k : Int} {n : ByteArray} {a b : T} (hn : n.size ≤ 140737488355328) (h : a.bb) (h' : b.bb) : (T.mk k n [a, b]).bb := bb_mk hn (by simp) (by simp only [List.mem_cons, List.not_mem_nil, or_false]; rintro u (rfl | rfl) <;> assumption)
theorem bb_atom {n : ByteArray} (h : n.size ≤ 140737488355328) : (tAtom n).bb := bb_mk h (by simp) (by simp)
theorem bb_data {n : ByteArray} (h : n.size ≤ 140737488355328) : (tData n).bb := bb_mk h (by simp) (by simp)
theorem bb_hash {a : T} (h : a.bb) : (tHash a).bb := bb_one nil_sz h
theorem bb_pub {a : T} (h : a.bb) : (tPub a).bb := bb_one nil_sz h
theorem bb_kdf {a : T} {n : ByteArray} (h : a.bb) (hn : n.size ≤ 140737488355328) : (tKdf a n).bb := bb_one hn h
theorem bb_enc {a b : T} (h : a.bb) (h' : b.bb) : (tEnc a b).bb := bb_two nil_sz h h'
theorem bb_mask {a b : T} (h : a.bb) (h' : b.bb) : (tMask a b).bb := bb_two nil_sz h h'
theorem bb_pair {l : List T} (hl : l.length ≤ 100) (h : ∀ u ∈ l, u.bb) : (tPair l).bb := bb_mk nil_sz hl h
theorem bb_pack {n : ByteArray} {l : List T} (hn : n.size ≤ 140737488355328) (hl : l.length ≤ 90) (h : ∀ u ∈ l, u.bb) : (tPack n l).bb := bb_pair (by simp; omega) (by
  intro u hu
  rcases List.mem_cons.1 hu with rfl | hu
  · exact bb_data hn
  · exact h u hu)
theorem bb_pack1 {n : ByteArray} {a : T} (hn : n.size ≤ 140737488355328) (h : a.bb) : (tPack n [a]).bb := bb_pack hn (by simp) (by simpa using h)
theorem bb_pack2 {n : ByteArray} {a b : T} (hn : n.size ≤ 140737488355328) (h : a.bb) (h' : b.bb) : (tPack n [a, b]).bb := bb_pack hn (by simp) (by simp only [List.mem_cons, List.not_mem_nil, or_false]; rintro u (rfl | rfl) <;> assumption)
theorem itoa_sz {n : Int} (h : inI n) : (itoaB n).size ≤ 20 := itoaB_le h.1 h.2
theorem bb_use {a : T} {n : Int} (h : a.bb) (hn : inI n) : (tUse a n).bb := bb_kdf h (by
  have := itoa_sz hn
  have e : (⟨#[117, 115, 101, 32]⟩ : ByteArray).size = 4 := rfl
  rw [ByteArray.size_append]; omega)
theorem bb_otp {a : T} {n : Int} (h : a.bb) (hn : inI n) : (tOtp a n).bb := bb_kdf h (by
  have := itoa_sz hn
  have e : (⟨#[111, 116, 112, 32]⟩ : ByteArray).size = 4 := rfl
  rw [ByteArray.size_append]; omega)
theorem bb_num {n : Int} (hn : inI n) : (tNum n).bb := by
  have := itoa_sz hn
  have e : (⟨#[61]⟩ : ByteArray).size = 1 := rfl
  have : (eqB (itoaB n)).size ≤ 140737488355328 := by unfold eqB; rw [ByteArray.size_append]; omega
  exact bb_data this
theorem bb_seal {k t : T} {n : Int} (hk : k.bb) (ht : t.bb) (hn : inI n) : (tSeal k n t).bb := bb_enc (bb_use hk hn) ht
theorem small_sz {n : ByteArray} (h : n.size ≤ 100) : n.size ≤ 140737488355328 := by omega
theorem bb_join {a b : T} {f g : ByteArray} (ha : a.bb) (hb : b.bb) (hf : f.size ≤ 100) (hg : g.size ≤ 100) : (tJoin a b f g).bb := by
  have e : (⟨#[106, 111, 105, 110, 32]⟩ : ByteArray).size = 5 := rfl
  exact bb_hash (bb_two nil_sz (bb_kdf ha (by rw [ByteArray.size_append]; omega)) (bb_kdf hb (by rw [ByteArray.size_append]; omega)))
theorem bb_ck {a u : T} (ha : a.bb) (hu : u.bb) : (tCk a u).bb := bb_join ha hu (by show 20 ≤ 100; omega) (by show 17 ≤ 100; omega)
theorem bb_chal {a u b : T} {now : Int} (ha : a.bb) (hu : u.bb) (hb : b.bb) (hn : inI now) : (tChal a u b now).bb :=
  bb_pack1 (small_sz (by show 9 ≤ 100; omega)) (bb_seal (bb_ck ha hu) (bb_pack2 (small_sz (by show 4 ≤ 100; omega)) (bb_num hn) (bb_hash hb)) i54)
theorem bb_wd {a : T} (h : a.bb) : (tWd a).bb := bb_kdf h (small_sz (by show 4 ≤ 100; omega))
theorem bb_msk {x u : T} (hx : x.bb) (hu : u.bb) : (tMsk x u).bb := bb_mask (bb_pub hx) (bb_wd hu)
theorem bb_point {u y : T} (hu : u.bb) (hy : y.bb) : (tPoint u y).bb := bb_pack1 (small_sz (by show 5 ≤ 100; omega)) (bb_msk hy hu)
theorem bb_share {x y : T} (hx : x.bb) (hy : y.bb) : (tShare x y).bb := by
  unfold tShare; split
  · exact bb_two nil_sz hy hx
  · exact bb_two nil_sz hx hy
theorem bb_xkey {x y u o a b : T} {n : Int} (hx : x.bb) (hy : y.bb) (hu : u.bb) (ho : o.bb) (ha : a.bb) (hb : b.bb) (hn : inI n) : (xKey x y u o a b n).bb :=
  bb_use (bb_hash (bb_pair (by simp) (by
    have h1 := bb_share hx hy
    have h2 := bb_wd hu
    have h3 := bb_hash hb
    simp only [List.mem_cons, List.not_mem_nil, or_false]
    rintro u (rfl | rfl | rfl | rfl | rfl) <;> assumption))) hn
theorem bb_fac {x y u o a b : T} (hx : x.bb) (hy : y.bb) (hu : u.bb) (ho : o.bb) (ha : a.bb) (hb : b.bb) : (tFac x y u o a b).bb :=
  bb_seal (bb_xkey hx hy hu ho ha hb i1) (bb_pack (small_sz (by show 6 ≤ 100; omega)) (by simp) (by simp)) i60
theorem bb_offer {n : T} (h : n.bb) : (tOffer n).bb := bb_pack1 (small_sz (by show 3 ≤ 100; omega)) h
theorem bb_code {ak l c : T} (ha : ak.bb) (hl : l.bb) (hc : c.bb) : (tCode ak l c).bb :=
  bb_pack1 (small_sz (by show 3 ≤ 100; omega)) (bb_seal ha (bb_pack2 (small_sz (by show 4 ≤ 100; omega)) hl hc) i45)
/- what a point's reader asks of Share -/
theorem sh154 {u u' x y : T} (h : ShOk x y) : ∀ l y', unpT spkB 1 (tPoint u' y) = some [l] → expT u l = (y', 0) → ShOk x y' := by
  intro l y' h1 h2
  rw [tPoint, unpT_pack (n := 1) spk_ne rfl] at h1
  cases h1
  rw [exp_msk] at h2
  split at h2
  · cases h2; exact h
  · cases h2
theorem sh155 {u u' x y f : T} (h : ShOk x y) : ∀ l f' x', unpT spkB 2 (tPack spkB [tMsk x u', f]) = some [l, f'] → expT u l = (x', 0) → ShOk x' y := by
  intro l f' x' h1 h2
  rw [unpT_pack (n := 2) spk_ne rfl] at h1
  cases h1
  rw [exp_msk] at h2
  split at h2
  · cases h2; exact h
  · cases h2
def shF : Fv := ⟨tAtom ⟨#[97, 107]⟩, tAtom ⟨#[117, 115, 101, 114]⟩, tData ⟨#[98, 111, 100, 121]⟩, tAtom ⟨#[120]⟩, tAtom ⟨#[121]⟩⟩
theorem itoa7 : (itoaB 7).size ≤ 18 := by
  rw [show (7 : Int) = ((7 : Nat) : Int) from rfl, itoaB_nat, numB_one (by omega)]
  show 1 ≤ 18; omega
def shTk : Tk := ⟨0, 5, 0, 0, 0, 5⟩
theorem shTk_right : shTk.right = true := rfl
section
variable {S : AS}
set_option maxHeartbeats 4000000 in
set_option maxRecDepth 100000 in
theorem s146 : call 146 [] S = some (.sc (.bool true), S) := by
  rw [call_calm a146 rfl (by simp) rfl]
  have ba : (tAtom ⟨#[97, 107]⟩).bb := bb_atom (by show 2 ≤ _; omega)
  have bu : (tAtom ⟨#[117, 115, 101, 114]⟩).bb := bb_atom (by show 4 ≤ _; omega)
  have bb : (tData ⟨#[98, 111, 100, 121]⟩).bb := bb_data (by show 4 ≤ _; omega)
  have bx : (tAtom ⟨#[120]⟩).bb := bb_atom (by show 1 ≤ _; omega)
  have by' : (tAtom ⟨#[121]⟩).bb := bb_atom (by show 1 ≤ _; omega)
  have bn : (tAtom ⟨#[110]⟩).bb := bb_atom (by show 1 ≤ _; omega)
  have bs : (tAtom ⟨#[115, 101, 101, 100]⟩).bb := bb_atom (by show 4 ≤ _; omega)
  have hsh : ShOk (tAtom ⟨#[120]⟩) (tAtom ⟨#[121]⟩) := shOk_atoms (by decide) (by decide) (by show 1 ≤ _; omega) (by show 1 ≤ _; omega)
  have i7 : inI 7 := by unfold inI; omega
  have i3 : inI 3 := by unfold inI; omega
  have d : ∀ n, T.mk 1 n [] = tData n := fun _ => rfl
  generalize hA : tAtom ⟨#[97, 107]⟩ = A at *
  generalize hU : tAtom ⟨#[117, 115, 101, 114]⟩ = U at *
  generalize hB : tData ⟨#[98, 111, 100, 121]⟩ = B at *
  generalize hX : tAtom ⟨#[120]⟩ = X at *
  generalize hY : tAtom ⟨#[121]⟩ = Y at *
  generalize hN : tAtom ⟨#[110]⟩ = N at *
  generalize hE : tAtom ⟨#[115, 101, 101, 100]⟩ = E at *
  have e148 := fun S => @s148 S A U B 7 i7
  have e149 := fun S => @s149 S A U B (tChal A U B 7) 9 (bb_chal ba bu bb i7) (by omega)
  rw [chk_chal i7 itoa7, if_pos ⟨rfl, rfl⟩, if_pos rfl, if_neg (by omega)] at e149
  have e153 := fun S => @s153 S U Y
  have e154 := fun S => @s154 S U B (tPoint U Y) X (bb_point bu by') (sh154 hsh)
  rw [ans_point, if_pos rfl] at e154
  have e155 := fun S => @s155 S U B Y (tPack spkB [tMsk X U, tFac X Y U (tMsk Y U) (tMsk X U) B]) (bb_pack2 (small_sz (by show 5 ≤ 100; omega)) (bb_msk bx bu) (bb_fac bx by' bu (bb_msk by' bu) (bb_msk bx bu) bb)) (sh155 hsh)
  rw [chk_point, if_pos rfl, T.same_self, if_pos rfl] at e155
  have bk := bb_xkey (n := 0) bx by' bu (bb_msk by' bu) (bb_msk bx bu) bb i0
  have hk7 : (xKey X Y U (tMsk Y U) (tMsk X U) B 0).kind = 7 := rfl
  generalize xKey X Y U (tMsk Y U) (tMsk X U) B 0 = XK at *
  generalize tPack spkB [tMsk X U, tFac X Y U (tMsk Y U) (tMsk X U) B] = XP at *
  have fk := T.bb_fits bk
  have e157 := fun S => @s157 S N
  have e158 := fun S => @s158 S E 3 i3 (by omega)
  have e156 := fun S => @s156 S A (tOffer N) (tOtp E 3) (bb_offer bn)
  rw [ans_offer] at e156
  have e159 := fun S => @s159 S A N (tCode A N (tOtp E 3)) E shTk (bb_code ba bn (bb_otp bs i3))
  rw [hit_code, if_pos rfl, if_pos rfl, shTk_right, if_pos rfl, hits_otp shTk_right i3, if_pos (Tk.may_mem.2 (.inr ⟨by decide, by decide⟩))] at e159
  have htk : shTk.cells = [.i 0, .i 5, .i 0, .i 0, .i 0, .i 5] := rfl
  rw [htk] at e159
  generalize tCode A N (tOtp E 3) = CD at *
  have l3 : pev (.iaddr 1) [lstI [3], .i 0] = some (.iptr [.i 3]) := rfl
  simp [f146, f146b, d, hA, hU, hB, hX, hY, hN, hE, e148, e149, e153, e154, e155, e156, e157, e158, e159, resA, resU, resH, eq_true hk7, fk, l3]
end
end Abs

namespace Abs
open Go

structure Fv.good (f : Fv) : Prop where
  ak : f.ak.bb
  user : f.user.bb
  body : f.body.bb
  x : f.x.bb
  y : f.y.bb
  xy : ShOk f.x f.y
  yx : ShOk f.y f.x
  yy : ShOk f.y f.y
  ne : f.x ≠ f.y
theorem hd_ne {p q s t : ByteArray} {b c : UInt8} (h : p.data[0]? = some b) (h' : q.data[0]? = some c) (hbc : b ≠ c) : p ++ s ≠ q ++ t := by
  intro e
  have e := congrArg (fun x => x.data[0]?) e
  have h1 : 0 < p.data.size := by
    rcases Nat.eq_zero_or_pos p.data.size with h0 | h0
    · rw [Array.getElem?_eq_none (by omega)] at h; cases h
    · exact h0
  have h2 : 0 < q.data.size := by
    rcases Nat.eq_zero_or_pos q.data.size with h0 | h0
    · rw [Array.getElem?_eq_none (by omega)] at h'; cases h'
    · exact h0
  simp only [ByteArray.data_append, Array.getElem?_append_left h1, Array.getElem?_append_left h2, h, h'] at e
  exact hbc (by simpa using e)
theorem nmF_good {s : ByteArray} (hs : s.size ≤ 140737488355000) : (nmF s).good := by
  have z1 : akB.size = 3 := rfl
  have z2 : usB.size = 5 := rfl
  have z3 : boB.size = 5 := rfl
  have z4 : xB.size = 2 := rfl
  have z5 : yB.size = 2 := rfl
  have s1 : (akB ++ s).size ≤ 140737488355328 := by rw [ByteArray.size_append]; omega
  have s2 : (usB ++ s).size ≤ 140737488355328 := by rw [ByteArray.size_append]; omega
  have s3 : (boB ++ s).size ≤ 140737488355328 := by rw [ByteArray.size_append]; omega
  have s4 : (xB ++ s).size ≤ 140737488355328 := by rw [ByteArray.size_append]; omega
  have s5 : (yB ++ s).size ≤ 140737488355328 := by rw [ByteArray.size_append]; omega
  have n4 : xB ++ s ≠ ⟨#[]⟩ := app_nonempty' (by omega)
  have n5 : yB ++ s ≠ ⟨#[]⟩ := app_nonempty' (by omega)
  exact ⟨bb_atom s1, bb_atom s2, bb_data s3, bb_atom s4, bb_atom s5, shOk_atoms n4 n5 (by omega) (by omega), shOk_atoms n5 n4 (by omega) (by omega), shOk_atoms n5 n5 (by omega) (by omega), fun e => hd_ne (b := 120) (c := 121) rfl rfl (by decide) (tAtom_inj.1 e)⟩
section
variable {S : AS}
end
end Abs
