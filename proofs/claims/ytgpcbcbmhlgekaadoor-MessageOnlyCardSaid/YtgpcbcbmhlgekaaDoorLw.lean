/- The Message laws: facts, shown, MessageMakes. -/
import Derived.Test.YtgpcbcbmhlgekaaDoorSp
set_option linter.unusedVariables false
set_option linter.unusedSimpArgs false
set_option linter.unusedSectionVars false
namespace Abs
open Go

instance (n : Int) : Decidable (inI n) := by unfold inI; infer_instance
/- what is made is read -/
theorem wordOf_word {s : ByteArray} : wordOf (tWord s) = some s := by
  unfold wordOf tWord
  rw [if_pos (by rfl)]
  exact cutB_app
theorem tagT_pack {s : ByteArray} {l : List T} : tagT (tPack s l) = s := by
  rw [tagT_cons (t := tPack s l) rfl rfl rfl]; rfl
theorem unpT_pack {s : ByteArray} {l : List T} {n : Int} (hs : s ≠ ⟨#[]⟩) (hn : (l.length : Int) = n) : unpT s n (tPack s l) = some l := by
  unfold unpT
  rw [if_pos ⟨hs, tagT_pack, by show ((l.length + 1 : Nat) : Int) = n + 1; omega⟩]
  rfl
theorem unpT_tag {s r : ByteArray} {l : List T} {n : Int} (h : r ≠ s) : unpT r n (tPack s l) = none := by
  unfold unpT
  rw [if_neg]; rintro ⟨_, h2, _⟩; rw [tagT_pack] at h2; exact h h2.symm
theorem unpT_num {s r : ByteArray} {l : List T} {n : Int} (h : (l.length : Int) ≠ n) : unpT r n (tPack s l) = none := by
  unfold unpT
  rw [if_neg]; rintro ⟨_, _, h2⟩
  have : ((tPack s l).kids.length : Int) = l.length + 1 := rfl
  omega
theorem numOf_num {n : Int} (h : inI n) (h18 : (itoaB n).size ≤ 18) : numOf (tNum n) = some n := by
  unfold numOf tNum
  rw [wordOf_word]
  show (if (itoaB n).size ≤ 18 then numS (itoaB n) else none) = _
  rw [if_pos h18, numS_itoa h]
theorem isNone_none : isNoneT tNone = true := by
  unfold isNoneT tNone
  rw [unpT_pack (by decide) (by rfl)]; rfl

section
variable {S : AS}
theorem i3 : itoaB (-3) = ⟨#[45, 51]⟩ := by
  unfold itoaB Lib.itoa
  rw [if_pos (by decide), show (-3 : Int).natAbs = 3 from rfl, Lib.decDigits_one (by omega)]
  rfl
theorem i5 : itoaB 5 = ⟨#[53]⟩ := by
  unfold itoaB Lib.itoa
  rw [if_neg (by decide), show (5 : Int).toNat = 5 from rfl, Lib.decDigits_one (by omega)]
  rfl
theorem sz97 : (⟨#[97]⟩ : ByteArray).size ≤ 4611686018427387904 := by decide
theorem sz98 : (⟨#[98]⟩ : ByteArray).size ≤ 4611686018427387904 := by decide

set_option maxHeartbeats 1000000 in
theorem s59 : call 59 [] S = some (.sc (.bool true), S) := by
  rw [call_calm a59 rfl rfl rfl]
  have n3 : numOf (tNum (-3)) = some (-3) := numOf_num (by decide) (by rw [i3]; decide)
  have n5 : refuseOf (tRefuse 5) = some 5 := by
    unfold refuseOf tRefuse
    rw [unpT_pack (by decide) (by rfl)]
    rw [Option.bind_some, refL_one, numOf_num (by decide) (by rw [i5]; decide)]
    rfl
  have b : bodyOf (tBody ⟨#[97]⟩ ⟨#[98]⟩) = some (⟨#[97]⟩, ⟨#[98]⟩) := by
    unfold bodyOf tBody
    rw [unpT_pack (by decide) (by rfl)]
    rw [Option.bind_some, bodyL_two, wordOf_word, wordOf_word]
    rfl
  have nm : (tNum (-3)).name = ⟨#[61, 45, 51]⟩ := by
    unfold tNum tWord
    rw [i3]; rfl
  have e1 : ∀ S, call 66 [.i (-3)] S = some (.agg (tNum (-3)).cells, S) := fun S => s66 (by decide)
  have e2 : ∀ S, call 87 [.agg (tNum (-3)).cells] S = some (optI (some (-3)), S) := fun S => by rw [s87 (by rw [nm]; decide), n3]
  have e3 : ∀ S, call 76 [.s ⟨#[97]⟩, .s ⟨#[98]⟩] S = some (.agg (tBody ⟨#[97]⟩ ⟨#[98]⟩).cells, S) := fun S => s76 sz97 sz98
  have e4 : ∀ S, call 92 [.agg (tBody ⟨#[97]⟩ ⟨#[98]⟩).cells] S = some (optB (some (⟨#[97]⟩, ⟨#[98]⟩)), S) := fun S => by rw [s92 (by decide), b]
  have e5 : ∀ S, call 72 [.i 5] S = some (.agg (tRefuse 5).cells, S) := fun S => s72 (by decide)
  have e6 : ∀ S, call 96 [.agg (tRefuse 5).cells] S = some (optI (some 5), S) := fun S => by
    rw [s96 (by decide) (by
      intro k hk
      rcases List.mem_cons.1 hk with rfl | hk
      · decide
      · rw [List.mem_singleton.1 hk]; unfold tNum tWord; rw [i5]; decide), n5]
  have e7 : ∀ S, call 83 [.agg tNone.cells] S = some (.sc (.bool true), S) := fun S => by rw [s83 (by decide), isNone_none]
  have e8 : ∀ S, call 81 [.agg tNone.cells] S = some (.sc (.string noneB), S) := fun S => by rw [s81]; unfold tNone; rw [tagT_pack]
  simp only [noneB] at e8
  simp [-pev_field, f59, f59b, e1, e2, optI, e3, e4, optB, e5, e6, e7, e8, nm]
end
end Abs

namespace Abs
open Go

section
variable {S : AS}
theorem cut_lstS {l : List ByteArray} {n : Nat} : pev (.sliceL 1 false true false) [lstS l, .sc (.int .i64 (min (l.length : Int) (n : Int)))] = some (.lst 1 false (sRow (l.take n))) := by
  have h : min (l.length : Int) (n : Int) = ((min l.length n : Nat) : Int) := by omega
  rw [h]
  have h2 : ((min l.length n : Nat) : Int) ≤ (l.length : Int) := by omega
  have h3 : List.take (min l.length n) (sRow l) = sRow (l.take n) := by
    unfold sRow
    rw [← List.map_take]
    congr 1
    conv => rhs; rw [List.take_eq_take_min]
    rw [Nat.min_comm]
  unfold lstS lstN
  cases l with
  | nil => simp [pev, bound, sRow]
  | cons s l =>
    have he : (sRow (s :: l)).isEmpty = false := rfl
    simp only [he, Bool.false_eq_true, if_false, pev, bound]
    simp only [sRow_len, Int.natCast_nonneg, true_and, h2, and_self, if_true, Option.map_some, Int.toNat_natCast, ne_eq, not_true, false_and, if_false, Bool.false_and, h3]
theorem nrm_cutS {l : List ByteArray} {f : Bool} : (AV.lst 1 f (sRow l)).nrm = lstS l := by
  rw [AV.nrm, nrm_sRow]; rfl

def sml (a : T) : T := if 100 < a.cnt then tAtom ⟨#[108, 97, 114, 103, 101]⟩ else a
theorem sml_fits {a : T} (h : a.fits) : (sml a).fits := by
  unfold sml; split
  · exact ⟨by simp, trivial⟩
  · exact h
theorem s60' {a : T} (h : a.fits) : call 60 [.agg a.cells] S = some (.agg (sml a).cells, S) := s60 h

theorem fits_pack {s : ByteArray} {l : List T} (h : fitsL l) (hl : l.length + 1 ≤ 4611686018427387904) : (tPack s l).fits := ⟨hl, ⟨by simp, trivial⟩, h⟩
theorem fits_word {s : ByteArray} : (tWord s).fits := ⟨by simp, trivial⟩
theorem fits_words {l : List ByteArray} : fitsL (wordsT l) := by
  rw [fitsL_iff]; intro t ht
  obtain ⟨s, _, rfl⟩ := List.mem_map.1 ht
  exact fits_word
theorem fits_tw {l : List ByteArray} (hl : l.length ≤ 4611686018427387904) : (tPair (wordsT l)).fits := ⟨by unfold wordsT; rw [List.length_map]; exact hl, fits_words⟩

set_option maxHeartbeats 4000000 in
theorem law12 {tag : ByteArray} {a b c : T} {l : List ByteArray} {n : Int} (ha : a.fits) (hb : b.fits) (hc : c.fits) (htag : tag.size ≤ 4611686018427387904) (hl : ∀ s ∈ l, s.size ≤ 4611686018427387904) (hn : inI n) :
    call 12 [.sc (.string tag), .agg a.cells, .agg b.cells, .agg c.cells, lstS l, .sc (.int .i64 n)] S = some (.sc (.bool true), S) := by
  rw [call_keep a12 (by simp) rfl]
  have fa := sml_fits ha
  have fb := sml_fits hb
  have fc := sml_fits hc
  have hl' : ∀ s ∈ l.take 10, s.size ≤ 4611686018427387904 := fun s hs => hl s (List.mem_of_mem_take hs)
  have hlen : (l.take 10).length * 48 ≤ 140737488355328 := by rw [List.length_take]; omega
  have hcut := @cut_lstS l 10
  have e68 : ∀ S, call 68 [.lst 1 false (sRow (l.take 10))] S = some (.agg (tPair (wordsT (l.take 10))).cells, S) := fun S => p68 rfl nrm_cutS hl' hlen
  have e69 : ∀ S, call 69 [.lst 1 false (sRow (l.take 10))] S = some (.agg (tPair (wordsT (l.take 10))).cells, S) := fun S => p69 rfl nrm_cutS hl' hlen
  have f68' : (tPair (wordsT (l.take 10))).fits := fits_tw (by omega)
  have fw : (tWord tag).fits := fits_word
  have f3 : (tPack tag [sml a, sml b, sml c]).fits := fits_pack ⟨fa, fb, fc, trivial⟩ (by simp)
  have fk : (tAsk (sml a) (sml b) (sml c)).fits := fits_pack ⟨fa, fb, fc, trivial⟩ (by simp)
  have fnone : tNone.fits := fits_pack trivial (by simp)
  have hx : (⟨#[120]⟩ : ByteArray).size ≤ 4611686018427387904 := by decide
  have fbody : (tBody tag ⟨#[120]⟩).fits := fits_pack ⟨fits_word, fits_word, trivial⟩ (by simp)
  have hcut' : pev (.sliceL 1 false true false) [lstS l, .sc (.int .i64 (min (l.length : Int) 10))] = some (.lst 1 false (sRow (l.take 10))) := hcut
  -- the number
  have num : ∀ m : Int, inI m → m ≠ -9223372036854775808 → (∀ S, call 66 [.sc (.int .i64 m)] S = some (.agg (tNum m).cells, S)) ∧ (∀ S, call 67 [.sc (.int .i64 m)] S = some (.agg (tNum m).cells, S)) ∧ (∀ S, call 72 [.sc (.int .i64 m)] S = some (.agg (tRefuse m).cells, S)) ∧ (∀ S, call 73 [.sc (.int .i64 m)] S = some (.agg (tRefuse m).cells, S)) ∧ (tNum m).fits ∧ (tRefuse m).fits := by
    intro m h1 h2
    have h3 : -9223372036854775808 < m := by unfold inI at h1; omega
    exact ⟨fun S => s66 h1, fun S => s67 h3 h1.2, fun S => s72 h1, fun S => s73 h1 h2, fits_word, fits_pack ⟨fits_word, trivial⟩ (by simp)⟩
  by_cases h0 : n = -9223372036854775808
  · obtain ⟨e1, e2, e3, e4, f1, f2⟩ := num 0 (by decide) (by decide)
    simp [f12, f12b, s59, s60' ha, s60' hb, s60' hc, hcut', h0, fillR, f3, fw, s64 htag, s65 tag htag, e1, e2, e3, e4, f1, f2, e68, e69, f68', fk, fnone, s76 htag hx, s77 htag hx, fbody]
  · obtain ⟨e1, e2, e3, e4, f1, f2⟩ := num n hn h0
    simp [f12, f12b, s59, s60' ha, s60' hb, s60' hc, hcut', h0, fillR, f3, fw, s64 htag, s65 tag htag, e1, e2, e3, e4, f1, f2, e68, e69, f68', fk, fnone, s76 htag hx, s77 htag hx, fbody]
end
end Abs

namespace Abs
open Go

structure T.good (t : T) : Prop where
  fits : t.fits
  kids : t.kids.length * 48 ≤ 140737488355328
  name : t.name.size ≤ 281474976710656
  names : ∀ k ∈ t.kids, k.name.size ≤ 281474976710656
theorem sml_good {t : T} (h : t.good) : (sml t).good := by
  unfold sml; split
  · exact ⟨⟨by simp, trivial⟩, by decide, by decide, fun k hk => by cases hk⟩
  · exact h

section
variable {S : AS}
theorem optL_fits {tag : ByteArray} {n : Int} {t : T} (h : t.fits) : fitsL ((unpT tag n t).getD []) ∧ ((unpT tag n t).getD []).length ≤ 4611686018427387904 := by
  obtain ⟨h1, h2⟩ := T.fits_kids h
  unfold unpT
  split
  · refine ⟨?_, ?_⟩
    · show fitsL t.kids.tail
      rw [fitsL_iff]; intro k hk; exact h2 k (List.mem_of_mem_tail hk)
    · show t.kids.tail.length ≤ _
      rw [List.length_tail]; omega
  · exact ⟨trivial, by simp⟩
theorem same_self {l : List T} : sameL l l = true := sameL_iff.2 rfl
theorem isTs3' {a b c : T} : IsTs S (.lst 3 true [a.cells, b.cells, c.cells]) [a, b, c] := isTs_lst (l := [a, b, c])
theorem askL_fits {t : T} (h : t.fits) : ((askOf t).map Prod.fst |>.getD tZ).fits ∧ ((askOf t).map (fun x => x.2.1) |>.getD tZ).fits ∧ ((askOf t).map (fun x => x.2.2) |>.getD tZ).fits := by
  have hz : tZ.fits := ⟨by simp, trivial⟩
  unfold askOf
  cases hu : unpT askB 3 t with
  | none => exact ⟨hz, hz, hz⟩
  | some l =>
    obtain ⟨hl, hm⟩ := unpT_len (n := 3) hu
    match l, hl with
    | [a, b, c], _ =>
      have h2 := (T.fits_kids h).2
      exact ⟨h2 a (hm a (by simp)), h2 b (hm b (by simp)), h2 c (hm c (by simp))⟩

set_option maxHeartbeats 4000000 in
set_option maxRecDepth 100000 in
theorem law13 {t : T} {tag : ByteArray} {n : Int} (ht : t.good) : call 13 [.agg t.cells, .sc (.string tag), .sc (.int .i64 n)] S = some (.sc (.bool true), S) := by
  rw [call_keep a13 (by simp) rfl]
  have g := sml_good ht
  have hlen : (sml t).kids.length ≤ 4611686018427387904 := (T.fits_kids g.fits).1
  have hk16 : (sml t).kids.length * 16 ≤ 140737488355328 := by have := g.kids; omega
  obtain ⟨k1, k2⟩ := optL_fits (tag := tag) (n := n % 16) g.fits
  have hn16 : -4611686018427387904 ≤ n % 16 ∧ n % 16 ≤ 4611686018427387904 := by omega
  have e80 : ∀ S, call 80 [lstT ((unpT tag (n % 16) (sml t)).getD []), lstT ((unpT tag (n % 16) (sml t)).getD [])] S = some (.sc (.bool true), S) := fun S => by
    rw [p80 isTs_T isTs_T k1 k2, same_self]
  have e91 : ∀ S, call 91 [lstS ((wordsOf (sml t)).getD []), lstS ((wordsOf (sml t)).getD [])] S = some (.sc (.bool true), S) := fun S => by
    rw [p91 (l := (wordsOf (sml t)).getD []) (m := (wordsOf (sml t)).getD []) rfl rfl (lstS_nrm _) (lstS_nrm _) ?_]
    · simp
    · unfold wordsOf
      split
      · cases hw : wordsL (sml t).kids with
        | none => simp
        | some ws => have := wordsL_len hw; simp; omega
      · simp
  obtain ⟨q1, q2, q3⟩ := askL_fits g.fits
  have e80' : ∀ S, call 80 [.lst 3 true [((askOf (sml t)).map Prod.fst |>.getD tZ).cells, ((askOf (sml t)).map (fun x => x.2.1) |>.getD tZ).cells, ((askOf (sml t)).map (fun x => x.2.2) |>.getD tZ).cells], .lst 3 true [((askOf (sml t)).map Prod.fst |>.getD tZ).cells, ((askOf (sml t)).map (fun x => x.2.1) |>.getD tZ).cells, ((askOf (sml t)).map (fun x => x.2.2) |>.getD tZ).cells]] S = some (.sc (.bool true), S) := fun S => by
    rw [p80 isTs3' isTs3' ⟨q1, q2, q3, trivial⟩ (by simp), same_self]
  have u1 := fun S => @s78 S tag (n % 16) (sml t) hlen
  have u2 := fun S => @s79 S tag (n % 16) (sml t) hn16
  simp [f13, f13b, s59, s60' ht.fits, u1, u2, optL, e80, s81, s82, s83 hlen, s84, s85, s86, optV, s87 g.name, s88, optI, s89 hk16, s90 hk16, optS, e91, s92 hlen, s93, optB, s94 hlen, s95, optA, e80', s96 hlen g.names, s97, fillR]
end
end Abs

namespace Abs
open Go

theorem T.eta (t : T) : T.mk t.kind t.name t.kids = t := by cases t; rfl
theorem dat_eq {t : T} (h : isDat t = true) : t = tData t.name := by
  obtain ⟨h1, h2⟩ := isDat_iff.1 h
  rw [← T.eta t, h1, h2]; rfl
theorem word_only {t : T} {s : ByteArray} (h : wordOf t = some s) : tWord s = t := by
  unfold wordOf at h
  split at h
  · rename_i hd
    rw [dat_eq hd, cutB_some.1 h]; rfl
  · cases h
theorem num_only {t : T} {n : Int} (h : numOf t = some n) : tNum n = t ∧ inI n := by
  unfold numOf at h
  obtain ⟨s, hs, h⟩ := Option.bind_eq_some_iff.1 h
  split at h
  · obtain ⟨h1, h2⟩ := numS_some.1 h
    refine ⟨?_, h1⟩
    unfold tNum
    rw [h2]; exact word_only hs
  · cases h
theorem words_only : ∀ {l : List T} {ws : List ByteArray}, wordsL l = some ws → wordsT ws = l
  | [], _, h => by simp only [wordsL] at h; cases h; rfl
  | t :: l, ws, h => by
    simp only [wordsL, Option.bind_eq_some_iff, Option.map_eq_some_iff] at h
    obtain ⟨s, hs, ws', hw, rfl⟩ := h
    show tWord s :: wordsT ws' = _
    rw [word_only hs, words_only hw]
theorem wordsOf_only {t : T} {ws : List ByteArray} (h : wordsOf t = some ws) : tPair (wordsT ws) = t := by
  unfold wordsOf at h
  split at h
  · rename_i hc
    rw [words_only h, ← T.eta t, hc.1, hc.2]; rfl
  · cases h
theorem unp_only {tag : ByteArray} {n : Int} {t : T} {l : List T} (h : unpT tag n t = some l) : tPack tag l = t := by
  unfold unpT at h
  split at h
  · rename_i hc
    cases h
    obtain ⟨k, m, hk⟩ := tagT_kids hc.2.1 hc.1
    have h2 := hc.2.1
    by_cases h3 : t.kind = 3 ∧ t.name = (⟨#[]⟩ : ByteArray)
    · rw [tagT_cons h3.1 h3.2 hk] at h2
      split at h2
      · rename_i hd
        rw [← T.eta t, h3.1, h3.2, hk]
        show tPair (tData tag :: m) = T.mk 3 ⟨#[]⟩ (k :: m)
        rw [dat_eq hd, h2]; rfl
      · exact absurd h2.symm hc.1
    · rw [tagT_no h3] at h2
      exact absurd h2.symm hc.1
  · cases h
theorem body_only {t : T} {x y : ByteArray} (h : bodyOf t = some (x, y)) : tBody x y = t := by
  unfold bodyOf at h
  obtain ⟨l, hl, h⟩ := Option.bind_eq_some_iff.1 h
  match l, (unpT_len (n := 2) hl).1 with
  | [a, b], _ =>
    rw [bodyL_two] at h
    obtain ⟨x', hx, h⟩ := Option.bind_eq_some_iff.1 h
    obtain ⟨y', hy, h⟩ := Option.bind_eq_some_iff.1 h
    split at h
    · cases h
    · cases h
      unfold tBody
      rw [word_only hx, word_only hy]; exact unp_only hl
theorem ask_only {t a b c : T} (h : askOf t = some (a, b, c)) : tAsk a b c = t := by
  unfold askOf at h
  obtain ⟨l, hl, h⟩ := Option.bind_eq_some_iff.1 h
  match l, (unpT_len (n := 3) hl).1 with
  | [a', b', c'], _ =>
    simp only [askL] at h; cases h
    exact unp_only hl
theorem refuse_only {t : T} {n : Int} (h : refuseOf t = some n) : tRefuse n = t ∧ inI n := by
  unfold refuseOf at h
  obtain ⟨l, hl, h⟩ := Option.bind_eq_some_iff.1 h
  match l, (unpT_len (n := 1) hl).1 with
  | [a], _ =>
    rw [refL_one] at h
    obtain ⟨m, hm, h⟩ := Option.bind_eq_some_iff.1 h
    split at h
    · cases h
    · cases h
      obtain ⟨h1, h2⟩ := num_only hm
      refine ⟨?_, h2⟩
      unfold tRefuse
      rw [h1]; exact unp_only hl
theorem none_only {t : T} : isNoneT t = t.same tNone := by
  cases h : t.same tNone with
  | true => rw [T.same_iff.1 h]; exact isNone_none
  | false =>
    rw [Bool.eq_false_iff] at h ⊢
    intro hn
    unfold isNoneT at hn
    cases hu : unpT noneB 0 t with
    | none => rw [hu] at hn; cases hn
    | some l =>
      obtain rfl : l = [] := List.eq_nil_of_length_eq_zero (unpT_len (n := 0) hu).1
      exact h (T.same_iff.2 (unp_only hu).symm)

section
variable {S : AS}
set_option maxHeartbeats 4000000 in
set_option maxRecDepth 100000 in
theorem law16 {t : T} (ht : t.good) : call 16 [.agg t.cells] S = some (.sc (.bool true), S) := by
  rw [call_keep a16 (by simp) rfl]
  have g := sml_good ht
  generalize hu : sml t = u at g
  have hlen : u.kids.length ≤ 4611686018427387904 := (T.fits_kids g.fits).1
  have hk16 : u.kids.length * 16 ≤ 140737488355328 := by have := g.kids; omega
  have s61u : ∀ {a : T} {S : AS}, a = u → call 61 [.agg a.cells, .agg u.cells] S = some (.sc (.bool true), S) := fun {a S} h => by
    subst h; rw [s61 g.fits, T.same_self]
  -- each reader: if it reads, then it makes that again
  have w : (∃ s, wordOf u = some s ∧ (∀ S, call 64 [.sc (.string s)] S = some (.agg u.cells, S))) ∨ wordOf u = none := by
    cases h : wordOf u with
    | none => exact .inr rfl
    | some s =>
      refine .inl ⟨s, rfl, fun S => ?_⟩
      have hs : s.size ≤ 4611686018427387904 := by
        have := g.name
        unfold wordOf at h
        split at h
        · have := cutB_size h; omega
        · cases h
      rw [s64 hs, word_only h]
  have nn : (∃ s, numOf u = some s ∧ (∀ S, call 66 [.sc (.int .i64 s)] S = some (.agg u.cells, S))) ∨ numOf u = none := by
    cases h : numOf u with
    | none => exact .inr rfl
    | some s =>
      obtain ⟨h1, h2⟩ := num_only h
      exact .inl ⟨s, rfl, fun S => by rw [s66 h2, h1]⟩
  have ws : (∃ l, wordsOf u = some l ∧ (∀ S, call 68 [lstS l] S = some (.agg u.cells, S))) ∨ wordsOf u = none := by
    cases h : wordsOf u with
    | none => exact .inr rfl
    | some l =>
      refine .inl ⟨l, rfl, fun S => ?_⟩
      have h1 := wordsOf_only h
      have hl : l.length = u.kids.length := by rw [← h1]; show l.length = (wordsT l).length; simp [wordsT]
      rw [p68 rfl (lstS_nrm l) ?_ (by have := g.kids; omega), h1]
      intro s hs
      have : tWord s ∈ u.kids := by rw [← h1]; exact List.mem_map_of_mem hs
      have h2 := g.names _ this
      have h3 : (tWord s).name.size = 1 + s.size := by show (eqB s).size = _; unfold eqB; rw [ByteArray.size_append]; rfl
      omega
  have bo : (∃ x y, bodyOf u = some (x, y) ∧ (∀ S, call 76 [.sc (.string x), .sc (.string y)] S = some (.agg u.cells, S))) ∨ bodyOf u = none := by
    cases h : bodyOf u with
    | none => exact .inr rfl
    | some p =>
      obtain ⟨x, y⟩ := p
      refine .inl ⟨x, y, rfl, fun S => ?_⟩
      have h1 := body_only h
      have k1 : tWord x ∈ u.kids := by rw [← h1]; exact List.mem_cons_of_mem _ List.mem_cons_self
      have k2 : tWord y ∈ u.kids := by rw [← h1]; exact List.mem_cons_of_mem _ (List.mem_cons_of_mem _ List.mem_cons_self)
      have h3 : ∀ s, (tWord s).name.size = 1 + s.size := by intro s; show (eqB s).size = _; unfold eqB; rw [ByteArray.size_append]; rfl
      have q1 := g.names _ k1
      have q2 := g.names _ k2
      rw [h3] at q1 q2
      rw [s76 (by omega) (by omega), h1]
  have as : (∃ a b c, askOf u = some (a, b, c) ∧ (∀ S, call 70 [.agg a.cells, .agg b.cells, .agg c.cells] S = some (.agg u.cells, S))) ∨ askOf u = none := by
    cases h : askOf u with
    | none => exact .inr rfl
    | some p =>
      obtain ⟨a, b, c⟩ := p
      exact .inl ⟨a, b, c, rfl, fun S => by rw [s70, ask_only h]⟩
  have re : (∃ n, refuseOf u = some n ∧ (∀ S, call 72 [.sc (.int .i64 n)] S = some (.agg u.cells, S))) ∨ refuseOf u = none := by
    cases h : refuseOf u with
    | none => exact .inr rfl
    | some n =>
      obtain ⟨h1, h2⟩ := refuse_only h
      exact .inl ⟨n, rfl, fun S => by rw [s72 h2, h1]⟩
  have e60 := fun S => @s60' S t ht.fits
  rw [hu] at e60
  have e61 := @s61u u
  have e61n : ∀ S, call 61 [.agg u.cells, .agg tNone.cells] S = some (.sc (.bool (u.same tNone)), S) := fun S => s61 g.fits
  have e83 := fun S => @s83 S u hlen
  have e85 := fun S => @s85 S u
  have e87 := fun S => @s87 S u g.name
  have e89 := fun S => @s89 S u hk16
  have e92 := fun S => @s92 S u hlen
  have e94 := fun S => @s94 S u hlen
  have e96 := fun S => @s96 S u hlen g.names
  rw [none_only] at e83
  simp only [f16, f16b]
  have unp0 : u.kind ≠ 3 → ∀ tag n, unpT tag n u = none := by
    intro hk tag n
    cases hq : unpT tag n u with
    | none => rfl
    | some l => exact absurd (by rw [← unp_only hq]; rfl) hk
  by_cases hk : u.kind = 3
  · have hd : isDat u = false := by simp [isDat, hk]
    have hw : wordOf u = none := by unfold wordOf; rw [hd]; rfl
    have hn : numOf u = none := by unfold numOf; rw [hw]; rfl
    rw [hw] at e85
    rw [hn] at e87
    rcases ws with ⟨l, hl, ws⟩ | hl <;> rw [hl] at e89 <;>
    rcases bo with ⟨x, y, hb, bo⟩ | hb <;> rw [hb] at e92 <;>
    rcases as with ⟨a, b, c, ha, as⟩ | ha <;> rw [ha] at e94 <;>
    rcases re with ⟨m, hr, re⟩ | hr <;> rw [hr] at e96 <;>
    simp [s59, *, optV, optI, optS, optB, optA]
  · have hl : wordsOf u = none := by unfold wordsOf; rw [if_neg (by simp [hk])]
    have hb : bodyOf u = none := by unfold bodyOf; rw [unp0 hk]; rfl
    have ha : askOf u = none := by unfold askOf; rw [unp0 hk]; rfl
    have hr : refuseOf u = none := by unfold refuseOf; rw [unp0 hk]; rfl
    rw [hl] at e89
    rw [hb] at e92
    rw [ha] at e94
    rw [hr] at e96
    rcases w with ⟨s, hw, w⟩ | hw <;> rw [hw] at e85 <;>
    rcases nn with ⟨n, hn, nn⟩ | hn <;> rw [hn] at e87 <;>
    simp [s59, *, optV, optI, optS, optB, optA]
end
end Abs

namespace Abs
open Go

theorem itoa18 {n : Int} (h : -100000000000000000 < n ∧ n < 100000000000000000) : (itoaB n).size ≤ 18 := by
  unfold itoaB Lib.itoa
  split
  · have := numB_le 16 n.natAbs (by omega)
    have h2 : (⟨(45 :: Lib.decDigits n.natAbs).toArray⟩ : ByteArray).size = (numB n.natAbs).size + 1 := by
      unfold numB; show (List.toArray _).size = (List.toArray _).size + 1; simp
    omega
  · have := numB_le 16 n.toNat (by omega)
    unfold numB at this
    omega
theorem tmod_in (n : Int) : -100000000000000000 < n.tmod 100000000000000000 ∧ n.tmod 100000000000000000 < 100000000000000000 := by
  have h1 := Int.natAbs_tmod n 100000000000000000
  have h2 : (100000000000000000 : Int).natAbs = 100000000000000000 := rfl
  rw [h2] at h1
  have h3 := Nat.mod_lt n.natAbs (show 0 < 100000000000000000 by omega)
  omega
theorem wordsOf_words {l : List ByteArray} : wordsOf (tPair (wordsT l)) = some l := by
  unfold wordsOf
  rw [if_pos ⟨rfl, rfl⟩]
  show wordsL (wordsT l) = some l
  induction l with
  | nil => rfl
  | cons s l ih =>
    show (wordOf (tWord s)).bind (fun s => (wordsL (wordsT l)).map (s :: ·)) = _
    rw [wordOf_word, ih]; rfl

section
variable {S : AS}
def tag1 (tag : ByteArray) : ByteArray := if tag = ⟨#[]⟩ then ⟨#[116]⟩ else tag
theorem tag1_ne (tag : ByteArray) : tag1 tag ≠ ⟨#[]⟩ := by
  unfold tag1; split
  · decide
  · assumption
theorem app_ne {s r : ByteArray} (h : r.size ≠ 0) : s ++ r ≠ s := by
  intro e
  have := congrArg ByteArray.size e
  rw [ByteArray.size_append] at this; omega
theorem smlL_fits {l : List T} (h : ∀ t ∈ l, t.good) : fitsL (l.map sml) := by
  rw [fitsL_iff]; intro t ht
  obtain ⟨u, hu, rfl⟩ := List.mem_map.1 ht
  exact sml_fits (h u hu).fits

set_option maxHeartbeats 4000000 in
set_option maxRecDepth 100000 in
theorem law15 {tag : ByteArray} {l : List T} {ws : List ByteArray} {n : Int} (hro : S.ro ≤ S.n) (htag : tag.size ≤ 281474976710655) (hl : ∀ t ∈ l, t.good) (hw : ∀ s ∈ ws, s.size ≤ 4611686018427387904) : Tru (call 15 [.sc (.string tag), lstT l, lstS ws, .sc (.int .i64 n)] S) := by
  rw [call_keep a15 (by simp) rfl]
  simp only [f15]
  simp [f15b, s59]
  refine loop_gen (α := Nat) (R := fun _ r => Tru r) (fun i e rg S' => i ≤ l.length ∧ i ≤ 10 ∧ e 0 = .sc (.string tag) ∧ e 1 = lstT l ∧ e 2 = lstS ws ∧ e 3 = .sc (.int .i64 n) ∧ e 9 = .sc (.bool true) ∧ e 11 = .sc (.int .i64 (i : Nat)) ∧ rg 12 = none ∧ Own S S' 3 (e 10) (((l.take i).map sml).map T.cells)) (fun i => 10 - i) ?_ 0 _ _ _ ?_
  rotate_left
  · refine ⟨by omega, by omega, by simp, by simp, by simp, by simp, by simp, by simp, by simp, ?_⟩
    simp; exact own_nil hro
  intro kk hkk i e rg S' ⟨hi, hi2, h0, h1, h2, h3, h9, h11, hrg, hO⟩ ih
  by_cases hc : i < l.length ∧ i < 10
  · obtain ⟨hc1, hc2⟩ := hc
    obtain ⟨t, ht⟩ := get_of_lt hc1
    have gt := hl t (List.mem_of_getElem? ht)
    have hL : (((l.take i).map sml).map T.cells).length = i := by simp; omega
    obtain ⟨v', S'', ha, hO', q1, q2, q3⟩ := hO.push (n := i) (bytes := 48) (r := (sml t).cells) (f := true) (d := some 43) (rg := rg) hL (by omega)
    have w2 : IntKind.i64.wrap ((i : Int) + 1) = ((i + 1 : Nat) : Int) := w64 (by omega)
    have h10r := hO.reg
    have hc3 : (i : Int) < 10 := by omega
    simp [f15_l0, h1, h11, hc1, hc3, lstT_at ht, s60' gt.fits, h10r, ha, q1, w2, fillR]
    refine ih (i + 1) _ _ _ (by omega) (fun _ h => h) ?_
    refine ⟨by omega, by omega, by simp [h0], by simp [h1], by simp [h2], by simp [h3], by simp [h9], by simp, by simp [hrg], ?_⟩
    have : ((l.take (i + 1)).map sml).map T.cells = ((l.take i).map sml).map T.cells ++ [(sml t).cells] := by
      rw [List.take_add_one, ht]; simp
    simp only [put_same, put_apply]
    rw [this]; simpa using hO'
  · -- behind the loop
    have hts := hO.isTs
    have hlenK := hO.len
    have h10r := hO.reg
    generalize hK : (l.take i).map sml = K at hts hlenK
    have hKl : K.length ≤ 10 := by rw [← hK]; simp; omega
    have hKf : fitsL K := by rw [← hK]; exact smlL_fits fun t ht => hl t (List.mem_of_mem_take ht)
    rw [List.length_map] at hlenK
    obtain ⟨tg, htg⟩ : ∃ tg, tg = tag1 tag := ⟨_, rfl⟩
    have ht1 : tg ≠ ⟨#[]⟩ := htg ▸ tag1_ne tag
    have htsz : tg.size ≤ 281474976710655 := by
      rw [htg]; unfold tag1; split
      · decide
      · exact htag
    have e62 : call 62 [.sc (.string (tg)), e 10] S' = some (.agg (tPack (tg) K).cells, S') := p62 hts (by omega)
    have hpl : (tPack (tg) K).kids.length ≤ 4611686018427387904 := by show K.length + 1 ≤ _; omega
    have e78a : ∀ S, call 78 [.sc (.string (tg)), .sc (.int .i64 (K.length : Nat)), .agg (tPack (tg) K).cells] S = some (optL (some K), S) := fun S => by
      rw [s78 hpl, unpT_pack ht1 rfl]
    have e78b : ∀ S, call 78 [.sc (.string (tg)), .sc (.int .i64 ((K.length : Int) + 1)), .agg (tPack (tg) K).cells] S = some (optL none, S) := fun S => by
      rw [s78 hpl, unpT_num (by omega)]
    have hx : (⟨#[120]⟩ : ByteArray).size = 1 := rfl
    have eadd : pev (.bin .add) [.sc (.string (tg)), .s ⟨#[120]⟩] = some (.sc (.string (tg ++ ⟨#[120]⟩))) := pev_sadd (by omega)
    have e78c : ∀ S, call 78 [.sc (.string (tg ++ ⟨#[120]⟩)), .sc (.int .i64 (K.length : Nat)), .agg (tPack (tg) K).cells] S = some (optL none, S) := fun S => by
      rw [s78 hpl, unpT_tag (app_ne (by rw [hx]; omega))]
    have w2 : IntKind.i64.wrap ((K.length : Int) + 1) = (K.length : Int) + 1 := w64 (by omega)
    have hcut : pev (.sliceL 1 false true false) [lstS ws, .sc (.int .i64 (min (ws.length : Int) 10))] = some (.lst 1 false (sRow (ws.take 10))) := @cut_lstS ws 10
    have hl' : ∀ s ∈ ws.take 10, s.size ≤ 4611686018427387904 := fun s hs => hw s (List.mem_of_mem_take hs)
    have hwl : (ws.take 10).length ≤ 10 := by rw [List.length_take]; omega
    have e68 : ∀ S, call 68 [.lst 1 false (sRow (ws.take 10))] S = some (.agg (tPair (wordsT (ws.take 10))).cells, S) := fun S => p68 rfl nrm_cutS hl' (by omega)
    have e89 : ∀ S, call 89 [.agg (tPair (wordsT (ws.take 10))).cells] S = some (optS (some (ws.take 10)), S) := fun S => by
      rw [s89 (by show (wordsT (ws.take 10)).length * 16 ≤ _; unfold wordsT; rw [List.length_map]; omega), wordsOf_words]
    obtain ⟨m1, m2⟩ := tmod_in n
    have hin : inI (n.tmod 100000000000000000) := by unfold inI; omega
    have h18 := itoa18 ⟨m1, m2⟩
    have erem : pev (.bin .rem) [.sc (.int .i64 n), .i 100000000000000000] = some (.sc (.int .i64 (n.tmod 100000000000000000))) := pev_rem (by decide)
    generalize n.tmod 100000000000000000 = m at *
    have e66 := fun S => @s66 S m hin
    have e87 : ∀ S, call 87 [.agg (tNum m).cells] S = some (optI (some m), S) := fun S => by
      rw [s87 ?_, numOf_num hin h18]
      show (eqB (itoaB m)).size ≤ _
      unfold eqB; rw [ByteArray.size_append]
      have : (⟨#[61]⟩ : ByteArray).size = 1 := rfl
      omega
    have e64 : ∀ S, call 64 [.sc (.string (tg))] S = some (.agg (tWord (tg)).cells, S) := fun S => s64 (by omega)
    have e85 : ∀ S, call 85 [.agg (tWord (tg)).cells] S = some (optV (some (tg)), S) := fun S => by rw [s85, wordOf_word]
    have e80 : call 80 [lstT K, e 10] S' = some (.sc (.bool true), S') := by
      rw [p80 isTs_T hts hKf (by omega), same_self]
    have e91 : ∀ S, call 91 [lstS (ws.take 10), .lst 1 false (sRow (ws.take 10))] S = some (.sc (.bool true), S) := fun S => by
      rw [p91 (l := ws.take 10) (m := ws.take 10) rfl rfl (lstS_nrm _) nrm_cutS (by omega)]; simp
    have hexit : ¬ (i : Int) < l.length ∨ (i : Int) < l.length ∧ ¬ (i : Int) < 10 := by omega
    by_cases h116 : tag = ⟨#[]⟩
    · unfold tag1 at htg
      rw [if_pos h116] at htg
      subst htg
      rcases hexit with hx1 | ⟨hx1, hx2⟩
      · simp [f15_l0, h1, h11, hx1]
        rw [hkk]
        simp [h0, h2, h3, h9, h116, hcut, erem, e62, h10r, hlenK, hrg, e78a, e78b, e78c, eadd, w2, optL, e68, e89, optS, e66, e87, optI, e64, e85, optV, e80, e91]
      · simp [f15_l0, h1, h11, hx1, hx2]
        rw [hkk]
        simp [h0, h2, h3, h9, h116, hcut, erem, e62, h10r, hlenK, hrg, e78a, e78b, e78c, eadd, w2, optL, e68, e89, optS, e66, e87, optI, e64, e85, optV, e80, e91]
    · unfold tag1 at htg
      rw [if_neg h116] at htg
      subst htg
      rcases hexit with hx1 | ⟨hx1, hx2⟩
      · simp [f15_l0, h1, h11, hx1]
        rw [hkk]
        simp [h0, h2, h3, h9, h116, hcut, erem, e62, h10r, hlenK, hrg, e78a, e78b, e78c, eadd, w2, optL, e68, e89, optS, e66, e87, optI, e64, e85, optV, e80, e91]
      · simp [f15_l0, h1, h11, hx1, hx2]
        rw [hkk]
        simp [h0, h2, h3, h9, h116, hcut, erem, e62, h10r, hlenK, hrg, e78a, e78b, e78c, eadd, w2, optL, e68, e89, optS, e66, e87, optI, e64, e85, optV, e80, e91]
end
end Abs
