/- CookieEnds, CookieBack: at the machine. -/
import Derived.Test.YtgpcbcbmhlgekaaDoorSr
set_option linter.unusedVariables false
set_option linter.unusedSimpArgs false
set_option linter.unusedSectionVars false
namespace Abs
open Go

@[simp] theorem Ck.dr7 (c : Ck) : c.cells.drop 7 = [] := rfl
structure Ck.sm (c : Ck) : Prop where
  client : c.client.size ≤ 1073741824
  nonce : c.nonce.size ≤ 1073741824
  done : doneB c.done ≤ 1073741824
  secret : c.secret.bulk ≤ 1073741824
  upto : inI c.upto
mutual
theorem T.bd_mono {r b : Nat} (hr : r ≤ b) : ∀ {t : T}, t.bd r → t.bd b
  | .mk _ _ l, h => ⟨by have := h.1; omega, by have := h.2.1; omega, bdL_mono hr h.2.2⟩
theorem bdL_mono {r b : Nat} (hr : r ≤ b) : ∀ {l : List T}, bdL r l → bdL b l
  | [], _ => trivial
  | t :: l, h => ⟨T.bd_mono hr h.1, bdL_mono hr h.2⟩
end
theorem bulk_bd {t : T} (h : t.bulk ≤ 1099511627776) : t.bd 140737488355328 := T.bd_mono (r := 48 * 1099511627776) (by omega) (T.bd_bulk h)
theorem doneB_len : ∀ {l : List ByteArray}, l.length * 5 ≤ doneB l
  | [] => Nat.zero_le _
  | s :: l => by have := @doneB_len l; rw [doneB, List.length_cons]; omega
theorem doneB_mem : ∀ {l : List ByteArray}, ∀ s ∈ l, s.size + 5 ≤ doneB l
  | [], s, h => by cases h
  | a :: l, s, h => by
    rw [doneB]
    rcases List.mem_cons.1 h with rfl | h
    · omega
    · have := doneB_mem (l := l) s h; omega
theorem doneB_take : ∀ {l : List ByteArray} {n : Nat}, doneB (l.take n) ≤ doneB l
  | [], n => by simp
  | s :: l, 0 => Nat.zero_le _
  | s :: l, n + 1 => by rw [List.take_succ_cons, doneB, doneB]; have := @doneB_take l n; omega
theorem Ck.sm.few {c : Ck} (h : c.sm) : c.few.sm := ⟨h.client, h.nonce, Nat.le_trans doneB_take h.done, h.secret, h.upto⟩
theorem Ck.sm.bd {c : Ck} (h : c.sm) : c.bd where
  client := by have := h.client; omega
  nonce := by have := h.nonce; omega
  done := by have := h.done; have := @doneB_len c.done; omega
  names := fun s hs => by have := h.done; have := doneB_mem s hs; omega
  upto := h.upto
  secret := bulk_bd (by have := h.secret; omega)
  ofit := T.ofit_bulk (by have := h.secret; omega)
theorem sm_seal {key : T} {c : Ck} (hk : key.bulk ≤ 1073741824) (hc : c.sm) : (sealT key c).bulk ≤ 1099511627776 := by
  have h := seal_bulk (key := key) (c := c) hc.upto
  have := hc.client
  have := hc.nonce
  have := hc.done
  have := hc.secret
  omega
section
variable {S : AS}
theorem b109 {key : T} {c : Ck} (hk : key.bulk ≤ 1073741824) (hc : c.sm) : call 109 [.agg key.cells, .agg c.cells] S = some (.agg (sealT key c).cells, S) :=
  r109 (bulk_bd (by omega)) (T.ofit_bulk (by omega)) hc.bd
theorem b112 {key t : T} {now : Int} (hk : key.bulk ≤ 1099511627776) (ht : t.bulk ≤ 1099511627776) :
    call 112 [.agg key.cells, .agg t.cells, .sc (.int .i64 now)] S = some (.tup [.agg (openP key t now).1.cells, .sc (.int .i64 (openP key t now).2)], S) :=
  r112 (bulk_bd hk) (T.ofit_bulk hk) (bulk_bd ht) (T.ofit_bulk ht)
theorem seal_kind {key : T} {c : Ck} : (sealT key c).kind = if key.fit && c.secret.fit then 4 else 0 := by
  unfold sealT; split <;> rfl
set_option maxHeartbeats 4000000 in
set_option maxRecDepth 100000 in
theorem law22 {key : T} {c : Ck} {now later : Int} (hk : key.bulk ≤ 1073741824) (hc : c.sm) : call 22 [.agg key.cells, .agg c.cells, .sc (.int .i64 now), .sc (.int .i64 later)] S = some (.sc (.bool true), S) := by
  rw [call_keep a22 (by simp) rfl]
  have e107 := @s107
  have e110 := fun S => @s110 S c
  have hcf := hc.few
  generalize c.few = d at *
  have fk : key.fits := T.fits_bulk (by omega)
  have fs : d.secret.fits := T.fits_bulk (by have := hcf.secret; omega)
  cases h1 : key.small with
  | false => simp [f22, f22b, e107, e110, s108, fk, h1]
  | true =>
    cases h2 : d.secret.small with
    | false => simp [f22, f22b, e107, e110, s108, fk, fs, h1, h2]
    | true =>
      have e109 := fun S => @b109 S key d hk hcf
      cases hf : (key.fit && d.secret.fit) with
      | false =>
        have hz : (sealT key d).kind = 0 := by rw [seal_kind, hf]; rfl
        simp [f22, f22b, e107, e110, s108, fk, fs, h1, h2, e109, hz]
      | true =>
        have hz : (sealT key d).kind = 4 := by rw [seal_kind, hf]; rfl
        rw [Bool.and_eq_true] at hf
        have e112 : ∀ n S, call 112 [.agg key.cells, .agg (sealT key d).cells, .sc (.int .i64 n)] S = some (.tup [.agg (if d.upto < n then ckZero else d).cells, .sc (.int .i64 (if d.upto < n then 5 else 0))], S) := fun n S => by
          rw [b112 (by omega) (sm_seal hk hcf), open_seal hf.1 hf.2 hcf.upto]
          split <;> rfl
        have hirr : ¬ d.upto < d.upto := by omega
        by_cases hs : later < now <;> by_cases ha : d.upto < now <;> by_cases hb : d.upto < later
        all_goals first
          | (exfalso; omega)
          | (have ha' : ¬ now ≤ d.upto := by omega
             have hb' : ¬ later ≤ d.upto := by omega
             simp [f22, f22b, e107, e110, s108, fk, fs, h1, h2, e109, hz, hs, e112, ha, hb, ha', hb', hirr]; done)
          | (have ha' : ¬ now ≤ d.upto := by omega
             have hb' : later ≤ d.upto := by omega
             simp [f22, f22b, e107, e110, s108, fk, fs, h1, h2, e109, hz, hs, e112, ha, hb, ha', hb', hirr]; done)
          | (have ha' : now ≤ d.upto := by omega
             have hb' : ¬ later ≤ d.upto := by omega
             simp [f22, f22b, e107, e110, s108, fk, fs, h1, h2, e109, hz, hs, e112, ha, hb, ha', hb', hirr]; done)
          | (have ha' : now ≤ d.upto := by omega
             have hb' : later ≤ d.upto := by omega
             simp [f22, f22b, e107, e110, s108, fk, fs, h1, h2, e109, hz, hs, e112, ha, hb, ha', hb', hirr]; done)
end
end Abs

namespace Abs
open Go

section
variable {S : AS}
theorem z118 : call 118 [.agg tZero.cells, .agg [.i 0, .s ⟨#[]⟩, .lst 0 true []]] S = some (.sc (.bool true), S) := by
  have hz : tZero.fits := ⟨by simp, trivial⟩
  rw [call_nrm a118 (args' := [.agg tZero.cells, .agg tZero.cells]) (by rw [cells_T]; rfl) (by rw [cells_T]; rfl) (by simp; rw [cells_T]; rfl) (by simp) rfl, s118 hz, T.same_self]
set_option maxHeartbeats 8000000 in
set_option maxRecDepth 100000 in
theorem law18 {key other : T} {c : Ck} {now : Int} (hk : key.bulk ≤ 1073741824) (hc : c.sm) (hot : other.bulk ≤ 1073741824) : call 18 [.agg key.cells, .agg c.cells, .sc (.int .i64 now), .agg other.cells] S = some (.sc (.bool true), S) := by
  rw [call_keep a18 (by simp) rfl]
  have e107 := @s107
  have e110 := fun S => @s110 S c
  have hcf := hc.few
  generalize c.few = d at *
  have fk : key.fits := T.fits_bulk (by omega)
  have fs : d.secret.fits := T.fits_bulk (by have := hcf.secret; omega)
  have fo : other.fits := T.fits_bulk (by omega)
  have ok : key.ofit := T.ofit_bulk (by omega)
  have os : d.secret.ofit := T.ofit_bulk (by have := hcf.secret; omega)
  cases h1 : key.small with
  | false => simp [f18, f18b, e107, e110, s108, fk, h1]
  | true =>
    cases h2 : d.secret.small with
    | false => simp [f18, f18b, e107, e110, s108, fk, fs, h1, h2]
    | true =>
      cases h3 : other.small with
      | false => simp [f18, f18b, e107, e110, s108, fk, fs, fo, h1, h2, h3]
      | true =>
        have e109 := fun S => @b109 S key d hk hcf
        have e116 := fun S => @s116 S key fk ok
        have e116s := fun S => @s116 S d.secret fs os
        by_cases hf : key.fit = true ∧ d.secret.fit = true
        · obtain ⟨hf1, hf2⟩ := hf
          have r1 : key.right = true ∧ key.dp ≤ 57 := by unfold T.fit at hf1; simpa using hf1
          have r2 : d.secret.right = true ∧ d.secret.dp ≤ 57 := by unfold T.fit at hf2; simpa using hf2
          have hz : (sealT key d).kind = 4 := by rw [seal_kind, hf1, hf2]; rfl
          have d1 : (((key.dep 61 : Nat) : Int) ≤ 57) := dep57.2 r1.2
          have d2 : (((d.secret.dep 61 : Nat) : Int) ≤ 57) := dep57.2 r2.2
          have hsr : (sealT key d).right = true := by rw [sealT_fit hf1 hf2]; exact seal_right hf1 hf2
          have sb := sm_seal hk hcf
          have e116t := fun S => @s116 S (sealT key d) (T.fits_bulk sb) (T.ofit_bulk sb)
          rw [r1.1] at e116
          rw [r2.1] at e116s
          rw [hsr] at e116t
          have e115 := fun S => @s115 S d d fs (by have := hcf.done; have := @doneB_len d.done; omega)
          have hself := d.same_self
          have e112 : ∀ n S, call 112 [.agg key.cells, .agg (sealT key d).cells, .sc (.int .i64 n)] S = some (.tup [.agg (if d.upto < n then ckZero else d).cells, .sc (.int .i64 (if d.upto < n then 5 else 0))], S) := fun n S => by
            rw [b112 (by omega) sb, open_seal hf1 hf2 hcf.upto]
            split <;> rfl
          have ez : ckZero.client = ⟨#[]⟩ := rfl
          have ez6 : ckZero.upto = 0 := rfl
          cases ho : key.same other with
          | false =>
            have hso : other.same key = false := by
              rw [Bool.eq_false_iff]; intro h; rw [T.same_iff.1 h, T.same_self] at ho; cases ho
            have e112o : ∀ n S, call 112 [.agg other.cells, .agg (sealT key d).cells, .sc (.int .i64 n)] S = some (.tup [.agg ckZero.cells, .i 4], S) := fun n S => by
              rw [b112 (by omega) sb, open_other hf1 hf2 ho]
            by_cases hn : d.upto < now
            · simp [f18, f18b, e107, e110, s108, fk, fs, fo, h1, h2, h3, e109, e116, e116s, e116t, d1, d2, hz, e112, e112o, hn, ez, ez6, hso]
            · simp [f18, f18b, e107, e110, s108, fk, fs, fo, h1, h2, h3, e109, e116, e116s, e116t, d1, d2, hz, e112, e112o, hn, e115, hself, hso]
          | true =>
            have hso : other = key := (T.same_iff.1 ho).symm
            subst hso
            by_cases hn : d.upto < now
            · simp [f18, f18b, e107, e110, s108, fk, fs, fo, h1, h2, h3, e109, e116, e116s, e116t, d1, d2, hz, e112, hn, ez, ez6]
            · simp [f18, f18b, e107, e110, s108, fk, fs, fo, h1, h2, h3, e109, e116, e116s, e116t, d1, d2, hz, e112, hn, e115, hself]
        · have hs0 : sealT key d = tZero := by
            unfold sealT
            rw [if_neg]
            rw [Bool.and_eq_true]; exact hf
          have hz : tZero.kind = 0 := rfl
          have ez := @z118
          have hfit : ∀ t : T, (t.fit = true) = (t.right = true ∧ t.dp ≤ 57) := fun t => by unfold T.fit; simp
          rw [hfit, hfit] at hf
          rw [hs0] at e109
          cases r1 : key.right with
          | false => rw [r1] at e116; simp [f18, f18b, e107, e110, s108, fk, fs, fo, h1, h2, h3, e109, e116, hz, ez]
          | true =>
            rw [r1] at e116 hf
            cases r2 : d.secret.right with
            | false => rw [r2] at e116s; simp [f18, f18b, e107, e110, s108, fk, fs, fo, h1, h2, h3, e109, e116, e116s, hz, ez]
            | true =>
              rw [r2] at e116s hf
              by_cases d1 : key.dp ≤ 57
              · have d2 : ¬ d.secret.dp ≤ 57 := fun h => hf ⟨⟨rfl, d1⟩, rfl, h⟩
                have d1' : (((key.dep 61 : Nat) : Int) ≤ 57) := dep57.2 d1
                have d2' : ¬ (((d.secret.dep 61 : Nat) : Int) ≤ 57) := fun h => d2 (dep57.1 h)
                simp [f18, f18b, e107, e110, s108, fk, fs, fo, h1, h2, h3, e109, e116, e116s, d1', d2', hz, ez]
              · have d1' : ¬ (((key.dep 61 : Nat) : Int) ≤ 57) := fun h => d1 (dep57.1 h)
                simp [f18, f18b, e107, e110, s108, fk, fs, fo, h1, h2, h3, e109, e116, e116s, d1', hz, ez]
end
end Abs

namespace Abs
open Go

theorem open_kind {key t : T} {now : Int} (h : t.kind ≠ 4) : openP key t now = (ckZero, 2) := by
  unfold openP
  rw [if_neg]
  simp [h]
theorem open_two {key t : T} {now : Int} (h : t.kids.length ≠ 6) : openP key (tEnc key t) now = (ckZero, 2) := by
  unfold openP
  split
  · have e : (tEnc key t).kids = [key, t] := rfl
    rw [e]
    simp only [T.same_self, if_true]
    split
    · rename_i heq; rw [heq] at h; simp at h
    · rfl
  · rfl
theorem open_hash {key t : T} {now : Int} (hr : (tEnc (tHash key) t).right = true) (h : (tHash key).same key = false) : openP key (tEnc (tHash key) t) now = (ckZero, 4) := by
  unfold openP
  rw [hr, show (tEnc (tHash key) t).kind = 4 from rfl]
  have e : (tEnc (tHash key) t).kids = [tHash key, t] := rfl
  rw [e]
  simp [h]
theorem hash_rshp {a : T} (ha : a.rshp = true) : (tHash a).rshp = true := by
  unfold tHash
  rw [T.rshp]
  simp [T.one, knd, nmd, kdn, T.kind, T.name, T.kids, rshpL, ha]
theorem hash_ord {a : T} (ha : a.ord = true) : (tHash a).ord = true := by
  unfold tHash
  rw [T.ord]
  simp [shareOk, ordL, ha]
theorem share_kind {a b : T} : (tShare a b).kind = 9 := by unfold tShare; split <;> rfl
theorem share_bulk {a b : T} : (tShare a b).bulk = a.bulk + b.bulk + 4 := by
  unfold tShare; split <;> (rw [mk_bulk, n0, bulkL_cons, bulkL_cons, bulkL_nil]; omega)
theorem mac_bulk {a b : T} : (tMac a b).bulk = a.bulk + b.bulk + 4 := by unfold tMac; rw [mk_bulk, n0, bulkL_cons, bulkL_cons, bulkL_nil]; omega
theorem mask_bulk {a b : T} : (tMask a b).bulk = a.bulk + b.bulk + 4 := by unfold tMask; rw [mk_bulk, n0, bulkL_cons, bulkL_cons, bulkL_nil]; omega
theorem hash_bulk {a : T} : (tHash a).bulk = a.bulk + 4 := by unfold tHash; rw [mk_bulk, n0, bulkL_cons, bulkL_nil]; omega
def nmB (s : ByteArray) : ByteArray := ⟨#[107, 101, 121]⟩ ++ cutS s 20
theorem nmB_size {s : ByteArray} : (nmB s).size ≤ 23 := by
  unfold nmB
  rw [ByteArray.size_append]
  have h1 : (⟨#[107, 101, 121]⟩ : ByteArray).size = 3 := rfl
  have h2 : (cutS s 20).size ≤ 20 := by unfold cutS; rw [ByteArray.size_extract]; omega
  omega
theorem nmB_ne {s : ByteArray} : nmB s ≠ ⟨#[]⟩ := app_nonempty (by show 3 ≠ 0; omega)
theorem p_nmB {s : ByteArray} : pev (.bin .add) [.s ⟨#[107, 101, 121]⟩, .sc (.string (cutS s 20))] = some (.sc (.string (nmB s))) := by
  have h1 : (⟨#[107, 101, 121]⟩ : ByteArray).size = 3 := rfl
  have h2 : (cutS s 20).size ≤ 20 := by unfold cutS; rw [ByteArray.size_extract]; omega
  exact pev_sadd (by omega)
theorem setC3 {c : Ck} {t : T} : List.take 3 c.cells ++ (t.cells ++ List.drop 6 c.cells) = ({ c with secret := t } : Ck).cells := by
  rw [cells_T t]; rfl

section
variable {S : AS}
set_option maxHeartbeats 8000000 in
set_option maxRecDepth 100000 in
theorem law24 {c : Ck} {name : ByteArray} (hc : c.sm) : Tru (call 24 [.agg c.cells, .sc (.string name)] S) := by
  rw [call_keep a24 (by simp) rfl]
  have e107 := @s107
  have e110 := fun S => @s110 S c
  have hcf := hc.few
  generalize c.few = d0 at *
  obtain ⟨d, hd⟩ : ∃ d : Ck, d = { d0 with secret := tAtom ⟨#[115]⟩ } := ⟨_, rfl⟩
  have hds : d.sm := by rw [hd]; exact ⟨hcf.client, hcf.nonce, hcf.done, by show (tAtom ⟨#[115]⟩).bulk ≤ _; rw [atom_bulk]; show 1 + 4 ≤ _; omega, hcf.upto⟩
  have hset := @setC3 d0 (tAtom ⟨#[115]⟩)
  rw [← hd] at hset
  have hcut := @pev_cut name 20 (by omega)
  have hp := @p_nmB name
  have hsz := @nmB_size name
  have hne := @nmB_ne name
  generalize nmB name = kn at *
  have kb : (tAtom kn).bulk ≤ 100 := by rw [atom_bulk]; omega
  have kf : (tAtom kn).fit = true := atom_fit hne
  have df : d.secret.fit = true := by rw [hd]; exact atom_fit (by decide)
  have e109 := fun S => @b109 S (tAtom kn) d (by omega) hds
  have hse := sealT_fit kf df
  have sb := sm_seal (key := tAtom kn) (by omega) hds
  have hsr := seal_right kf df
  have bb : (tPair (bodyT d)).bulk ≤ 1073741824000 := by
    have := body_bulk hds.upto
    have := hds.client
    have := hds.nonce
    have := hds.done
    have := hds.secret
    rw [pair_bulk]; omega
  rw [hse] at e109 sb
  obtain ⟨B, hB⟩ : ∃ B, B = tPair (bodyT d) := ⟨_, rfl⟩
  rw [← hB] at e109 sb hsr bb
  have hBk : B.kind = 3 := by rw [hB]; rfl
  have e127 := fun S => @s127 S (tAtom kn) B (by omega) (by omega)
  have e126 := fun S => q126 (S := S) (x := .lst 3 true [(tAtom kn).cells, B.cells]) (l := [tAtom kn, B]) isTs2 (by show 2 * 48 ≤ _; omega)
  obtain ⟨others, ho⟩ : ∃ l : List T, l = [B, tMac (tAtom kn) B, tHash B, tMask B (tAtom kn), tPair [tAtom kn, B], tShare (tAtom kn) B] := ⟨_, rfl⟩
  have hoc : [B.cells, (tMac (tAtom kn) B).cells, (tHash B).cells, (tMask B (tAtom kn)).cells, (tPair [tAtom kn, B]).cells, (tShare (tAtom kn) B).cells] = others.map T.cells := by rw [ho]; rfl
  have hol : others.length = 6 := by rw [ho]; rfl
  have hall : ∀ t ∈ others, ∀ n S, call 112 [.agg (tAtom kn).cells, .agg t.cells, .sc (.int .i64 n)] S = some (.tup [.agg ckZero.cells, .i 2], S) := by
    intro t ht n S
    have hk4 : t.kind ≠ 4 ∧ t.bulk ≤ 1099511627776 := by
      rw [ho] at ht
      simp only [List.mem_cons, List.not_mem_nil, or_false] at ht
      rcases ht with rfl | rfl | rfl | rfl | rfl | rfl
      · exact ⟨by rw [hBk]; decide, by omega⟩
      · exact ⟨by show (5 : Int) ≠ 4; decide, by rw [mac_bulk]; omega⟩
      · exact ⟨by show (6 : Int) ≠ 4; decide, by rw [hash_bulk]; omega⟩
      · exact ⟨by show (10 : Int) ≠ 4; decide, by rw [mask_bulk]; omega⟩
      · exact ⟨by show (3 : Int) ≠ 4; decide, by rw [pair_bulk, bulkL_cons, bulkL_cons, bulkL_nil]; omega⟩
      · exact ⟨by rw [share_kind]; decide, by rw [share_bulk]; omega⟩
    rw [b112 (by omega) hk4.2, open_kind hk4.1]
  have hE1 : ∀ n S, call 112 [.agg (tAtom kn).cells, .agg (tEnc (tAtom kn) (tEnc (tAtom kn) B)).cells, .sc (.int .i64 n)] S = some (.tup [.agg ckZero.cells, .i 2], S) := fun n S => by
    rw [b112 (by omega) (by rw [enc_bulk]; have : (tEnc (tAtom kn) B).bulk ≤ 1073741825000 := by rw [enc_bulk]; omega
                            omega), open_two (by show 2 ≠ 6; omega)]
  have hE2 : ∀ n S, call 112 [.agg (tAtom kn).cells, .agg (tEnc (tHash (tAtom kn)) (tEnc (tAtom kn) B)).cells, .sc (.int .i64 n)] S = some (.tup [.agg ckZero.cells, .i 4], S) := fun n S => by
    obtain ⟨r1, r2, r3⟩ := T.right_iff.1 hsr
    obtain ⟨f1, f2, f3⟩ := fit_iff.1 kf
    have hdp : (tEnc (tHash (tAtom kn)) (tEnc (tAtom kn) B)).dp ≤ 60 := by
      have d1 : (tAtom kn).dp = 1 := rfl
      have dB : B.dp ≤ 59 := by
        rw [hB, T.dp_def]
        have : dpL (tPair (bodyT d)).kids ≤ 57 := dpL_le fun u hu => body_dp (fit_iff.1 df).2.2 u hu
        omega
      have dE : (tEnc (tAtom kn) B).dp ≤ 59 := by
        rw [T.dp_def]
        have : dpL (tEnc (tAtom kn) B).kids ≤ 58 := dpL_le fun u hu => by
          have hu : u ∈ [tAtom kn, B] := hu
          simp only [List.mem_cons, List.not_mem_nil, or_false] at hu
          rcases hu with rfl | rfl
          · omega
          · rw [hB, T.dp_def]
            have : dpL (tPair (bodyT d)).kids ≤ 57 := dpL_le fun u hu => body_dp (fit_iff.1 df).2.2 u hu
            omega
        omega
      have dH : (tHash (tAtom kn)).dp = 2 := rfl
      rw [T.dp_def]
      have : dpL (tEnc (tHash (tAtom kn)) (tEnc (tAtom kn) B)).kids ≤ 59 := dpL_le fun u hu => by
        have hu : u ∈ [tHash (tAtom kn), tEnc (tAtom kn) B] := hu
        simp only [List.mem_cons, List.not_mem_nil, or_false] at hu
        rcases hu with rfl | rfl
        · omega
        · exact dE
      omega
    rw [b112 (by omega) (by rw [enc_bulk, enc_bulk, hash_bulk]; omega), open_hash (T.right_iff.2 ⟨enc_rshp (hash_rshp f1) r1, hdp, enc_ord (hash_ord f2) r3⟩) (by rfl)]
  have hEk : (tEnc (tAtom kn) B).kids.length = 2 := rfl
  have hl1 : pev (.iaddr 3) [lstT (tEnc (tAtom kn) B).kids, .i 1] = some (.iptr B.cells) := lstT_at (i := 1) rfl
  simp [f24, f24b, e107, e110, hcut, hp, s122, s123, s124, s125, s128, hset, e109, hl1, fillR, e126, e127, hoc, hEk]
  refine loop_genR (α := Nat) (R := fun _ r => Tru r) (fun i e rg S' => i ≤ 6 ∧ NQ [4, 11, 12, 57, 58, 59, 60, 61, 62, 63, 64, 65, 66, 67, 68, 69, 70, 71, 72, 73, 74, 75, 76, 77, 78, 79, 80] [11] e ∧ e 2 = .reg 2 0 ∧ rg 2 = some d.cells ∧ e 5 = .b true ∧ e 6 = .reg 6 0 ∧ rg 6 = some (tAtom kn).cells ∧ e 7 = .reg 7 0 ∧ rg 7 = some (tEnc (tAtom kn) B).cells ∧ e 9 = .lst 3 true (others.map T.cells) ∧ e 10 = .sc (.int .i64 (i : Nat)) ∧ rg 13 = none ∧ rg 15 = none) (fun i => 6 - i) (fun _ _ _ _ h => h.2.1) ?_ 0 _ _ _ ?_
  rotate_left
  · refine ⟨by omega, ?_, by simp, by simp, by simp, by simp, by simp, by simp, by simp, by simp, by simp, by simp, by simp⟩
    repeat (first | exact NQ_ini rfl | refine NQ_put ?_ (by simp))
  intro kk hkk i e rg S' ⟨hi, hq, g2, r2, g5, g6, r6, g7, r7, g9, g10, r13, r15⟩ ih
  have ez : ckZero.client = ⟨#[]⟩ := rfl
  by_cases hc : i < 6
  · obtain ⟨u, hu⟩ := get_of_lt (l := others) (i := i) (by omega)
    have w2 : IntKind.i64.wrap ((i : Int) + 1) = ((i + 1 : Nat) : Int) := w64 (by omega)
    have e112 := hall u (List.mem_of_getElem? hu)
    have hia : pev (.iaddr 3) [.lst 3 true (others.map T.cells), .sc (.int .i64 (i : Nat))] = some (.iptr u.cells) := by
      rw [pev_iaddrL (by omega)]; simp [hu]
    have hc' : (i : Int) < 6 := by omega
    simp [f24_l0, g2, r2, g6, r6, g9, g10, hol, hc, hc', hia, e112, w2, ez]
    refine ih (i + 1) _ _ _ (by omega) (fun _ h => h) ?_
    refine ⟨by omega, ?_, by simp [g2], by simp [r2], by simp [g5], by simp [g6], by simp [r6], by simp [g7], by simp [r7], by simp [g9], by simp, by simp [r13], by simp [r15]⟩
    repeat (first | exact NQ_fgt hq | refine NQ_put ?_ (by simp))
  · have hi' : i = 6 := by omega
    subst hi'
    simp [f24_l0, g9, g10, hol]
    rw [hkk]
    simp [g2, r2, g5, g6, r6, g7, r7, r13, r15, s124, s128, hE1, hE2]
end
end Abs

namespace Abs
open Go

def cdC (u : Int) (l : List ByteArray) : Ck := ⟨⟨#[97]⟩, ⟨#[110]⟩, l, tAtom ⟨#[115]⟩, u⟩
theorem Own.at1 {S0 S : AS} {v : AV} {l : List ByteArray} (h : Own S0 S 1 v (sRow l)) {i : Nat} {s : ByteArray} (hs : l[i]? = some s) : ∃ p, pev (.iaddr 1) [v, .sc (.int .i64 (i : Int))] = some p ∧ p.isReg = false ∧ ∀ d rg, opev (.ld none 1 false) d rg S [p] = some (.sc (.string s), none, S) := by
  have hlen : i < l.length := (List.getElem?_eq_some_iff.1 hs).1
  have hrow : (sRow l)[i]? = some [.sc (.string s)] := by simp [sRow, hs]
  rcases h.h with ⟨z, rfl, hz⟩ | ⟨id, rfl, hh, _, _⟩
  · rcases hz with hz | rfl
    · rw [hz] at hrow; simp at hrow
    · exact ⟨.iptr [.sc (.string s)], by simp [pev, hrow], rfl, fun d rg => by simp⟩
  · have hl : (sRow l).length = l.length := by simp [sRow]
    refine ⟨.ptr id (0 + i) 0, by simp [pev, hl]; omega, rfl, fun d rg => ?_⟩
    rw [opev_ld_ptr hh, Nat.zero_add, hrow]; rfl
theorem ckX_set {c : Ck} {v v' : AV} : List.take 2 (ckX c v) ++ v' :: List.drop 3 (ckX c v) = ckX c v' := rfl

section
theorem cdC_ok {u : Int} {l : List ByteArray} (hu : inI u) (hl : l.length ≤ 15) (hn : ∀ s ∈ l, s.size ≤ 281474976710656) : (cdC u l).ok where
  client := by show (⟨#[97]⟩ : ByteArray).size ≤ _; decide
  nonce := by show (⟨#[110]⟩ : ByteArray).size ≤ _; decide
  done := by show l.length * 48 ≤ _; omega
  names := fun s hs => by have := hn s hs; omega
  upto := hu
  fits := ⟨by simp, trivial⟩
  ofit := by
    show (tAtom ⟨#[115]⟩).ofit
    exact T.ofit_bulk (by rw [atom_bulk]; show 1 + 4 ≤ _; omega)
def Inv23 (l : List ByteArray) (u : Int) (K : T) (n i : Nat) (e : Nat → AV) (rg : Nat → Option (List AV)) (S' : AS) : Prop :=
  i ≤ n ∧ NQ [6, 13, 14, 35, 36, 37, 38, 39, 40, 41, 42, 43, 44, 45, 46, 47, 48, 49, 50, 51, 52, 53, 54, 55, 56, 57, 58, 59, 60, 61, 62, 63, 64, 65, 66, 67] [13] e ∧
  e 0 = lstS l ∧ e 2 = .sc (.int .i64 u) ∧ e 7 = .sc (.bool true) ∧ e 8 = .reg 8 0 ∧ rg 8 = some K.cells ∧ e 9 = .reg 9 0 ∧ rg 9 = some (ckX (cdC u []) (.lst 0 true [])) ∧ e 10 = .reg 10 0 ∧ rg 10 = some (sealT K (cdC u (l.take i))).cells ∧
  e 11 = .sc (.int .i64 (n : Nat)) ∧ e 12 = .sc (.int .i64 (i : Nat)) ∧ rg 15 = none ∧ S'.ro ≤ S'.n
theorem sRow_take {l : List ByteArray} {i : Nat} {s : ByteArray} (h : l[i]? = some s) : sRow (l.take (i + 1)) = sRow (l.take i) ++ [[.sc (.string s)]] := by
  rw [List.take_add_one, h]; simp [sRow]
set_option maxHeartbeats 8000000 in
set_option maxRecDepth 100000 in
theorem law23 {S : AS} (hS : S.ro ≤ S.n) {l : List ByteArray} {key : ByteArray} {u : Int} (hu : inI u) (hll : l.length ≤ 140737488355328) (hl : ∀ s ∈ l, s.size ≤ 281474976710656) : Tru (call 23 [lstS l, .sc (.string key), .sc (.int .i64 u)] S) := by
  rw [call_keep a23 (by simp) rfl]
  have e107 := @s107
  have hcut := @pev_cut key 20 (by omega)
  have hp := @p_nmB key
  have hsz := @nmB_size key
  have hne := @nmB_ne key
  generalize nmB key = kn at *
  have kb : (tAtom kn).bulk ≤ 100 := by rw [atom_bulk]; omega
  have kf : (tAtom kn).fit = true := atom_fit hne
  have kfit : (tAtom kn).fits := T.fits_bulk (by omega)
  have kof : (tAtom kn).ofit := T.ofit_bulk (by omega)
  have df : (tAtom ⟨#[115]⟩).fit = true := atom_fit (by decide)
  have sof : (tAtom ⟨#[115]⟩).ofit := (cdC_ok (l := []) hu (by simp) (by simp)).ofit
  have sfi : (tAtom ⟨#[115]⟩).fits := ⟨by simp, trivial⟩
  have e118 := fun S => @s118 (tAtom ⟨#[115]⟩) (tAtom ⟨#[115]⟩) S sfi
  rw [T.same_self] at e118
  have e109 : ∀ S, call 109 [.agg (tAtom kn).cells, .agg (ckX (cdC u []) (.lst 0 true []))] S = some (.agg (sealT (tAtom kn) (cdC u [])).cells, S) := fun S => p109 isSs_nil kfit kof (cdC_ok hu (by simp) (by simp))
  have hd4 : List.drop 4 ((tAtom ⟨#[115]⟩).cells ++ [AV.i 0]) = [] := by rw [cells_T]; rfl
  have hck : AV.s ⟨#[97]⟩ :: AV.s ⟨#[110]⟩ :: AV.lst 0 true [] :: ((tAtom ⟨#[115]⟩).cells ++ [.sc (.int .i64 u)]) = ckX (cdC u []) (.lst 0 true []) := by rw [cells_T]; rfl
  have hc7 : ∀ c x, (ckX c x).take 7 = ckX c x := fun _ _ => rfl
  have hall : ∀ c x, x.isCell = true → (ckX c x).all AV.isCell = true := fun c x h => ckX_cell _ _ h
  have hal0 := hall (cdC u []) (.lst 0 true []) rfl
  obtain ⟨n, hn⟩ : ∃ n, n = min l.length 15 := ⟨_, rfl⟩
  have hmin : min (l.length : Int) 15 = (n : Int) := by omega
  have hnl : n ≤ l.length := by omega
  have hn15 : n ≤ 15 := by omega
  simp only [f23]
  simp [f23b, e107, s122, hcut, hp, hd4, hck, hc7, hal0, e109, hmin]
  refine loop_genR (α := Nat) (R := fun _ r => Tru r) (fun i e rg S' => Inv23 l u (tAtom kn) n i e rg S') (fun i => n - i) (fun _ _ _ _ h => h.2.1) ?_ 0 _ _ _ ?_
  rotate_left
  · refine ⟨by omega, ?_, by simp, by simp, by simp, by simp, by simp, by simp, by simp, by simp, by simp, by simp, by simp, by simp, hS⟩
    repeat (first | exact NQ_ini rfl | refine NQ_put ?_ (by simp))
  intro kk hkk i e rg S' ⟨hi, hq, h0, h2, h7, h8, r8, h9, r9, h10, r10, h11, h12, r15, hro⟩ ih
  have hti : (l.take i).length = i := by rw [List.length_take]; omega
  have hok : ∀ j, (hj : j ≤ 15) → (cdC u (l.take j)).ok := fun j hj => cdC_ok hu (by rw [List.length_take]; omega) (fun s hs => hl s (List.mem_of_mem_take hs))
  obtain ⟨v, S1, e1112, hO⟩ := kSeal (key := tAtom kn) (c := cdC u (l.take i)) (now := u) hro kfit kof kf df (hok i (by omega)) (seal_ofit kof sof) (by show ¬ u < u; omega)
  have hdn : (cdC u (l.take i)).done = l.take i := rfl
  rw [hdn] at hO
  have hlen : pev .lenL [v] = some (.sc (.int .i64 (i : Nat))) := by rw [hO.len]; simp only [sRow, List.length_map, hti]
  have hvr := hO.reg
  have halv := hall (cdC u (l.take i)) v hO.cell
  by_cases hc : i < n
  · obtain ⟨s, hs⟩ : ∃ s, l[i]? = some s := get_of_lt (by omega)
    have w2 : IntKind.i64.wrap ((i : Int) + 1) = ((i + 1 : Nat) : Int) := w64 (by omega)
    obtain ⟨v', S2, ha, hO', q1, q2, q3⟩ := hO.push (n := i) (bytes := 16) (r := [.sc (.string s)]) (f := true) (d := none) (rg := fun _ => none) (by simp only [sRow, List.length_map, hti]) (by omega)
    have hap := opev_appA (ys := [[.sc (.string s)]]) (by simp [rowsOf]) ha
    have ha' : ∀ d rg, opev (.append 1 16) d rg S1 [v, .lst 1 true [[.sc (.string s)]]] = some (v', none, S2) := fun d rg => by simp [opev, rowsOf, hap]
    rw [← sRow_take hs] at hO'
    have e109' : call 109 [.agg (tAtom kn).cells, .agg (ckX (cdC u (l.take i)) v')] S2 = some (.agg (sealT (tAtom kn) (cdC u (l.take (i + 1)))).cells, S2) := p109 (c := cdC u (l.take (i + 1))) hO'.isSs kfit kof (hok (i + 1) (by omega))
    have hset := @ckX_set (cdC u (l.take i)) v v'
    have hci : (i : Int) < (n : Int) := by omega
    simp [f23_l1, h0, h2, h7, h8, r8, h9, r9, h10, r10, h11, h12, hci, e1112, hc7, halv, hlen, hvr, lstS_at hs, fillR, ha', q1, q2, q3, hset, e109', w2]
    refine ih (i + 1) _ _ _ (by omega) (fun _ h => h) ?_
    refine ⟨by omega, ?_, by simp [h0], by simp [h2], by simp [h7], by simp [h8], by simp [r8], by simp [h9], by simp [r9], by simp [h10], by simp, by simp [h11], by simp, by simp [r15], ?_⟩
    · repeat (first | exact NQ_fgt hq | refine NQ_put ?_ (by simp [q1]))
    · have := hO'.ro; have := hO'.old.n; omega
  · have hi' : i = n := by omega
    subst hi'
    have hcn : ¬ (i : Int) < (i : Int) := by omega
    simp [f23_l1, h11, h12]
    rw [hkk]
    have ecl : (cdC u (l.take i)).client = ⟨#[97]⟩ := rfl
    have eno : (cdC u (l.take i)).nonce = ⟨#[110]⟩ := rfl
    have eup : (cdC u (l.take i)).upto = u := rfl
    have ese : (cdC u (l.take i)).secret = tAtom ⟨#[115]⟩ := rfl
    have ese0 : (cdC u []).secret = tAtom ⟨#[115]⟩ := rfl
    simp [h0, h2, h7, h8, r8, h9, r9, h10, r10, h11, h12, r15, e1112, hc7, halv, hlen, hvr, ecl, eno, eup, ese, ese0, e118]
    refine loop_gen (α := Nat) (R := fun _ r => Tru r) (fun j e rg S' => j ≤ i ∧ S' = S1 ∧ e 0 = lstS l ∧ e 7 = .sc (.bool true) ∧ e 11 = .sc (.int .i64 (i : Nat)) ∧ e 15 = .reg 15 0 ∧ rg 15 = some (ckX (cdC u (l.take i)) v) ∧ e 17 = .sc (.int .i64 (j : Nat))) (fun j => i - j) ?_ 0 _ _ _ ?_
    rotate_left
    · exact ⟨by omega, rfl, by simp [h0], by simp [h7], by simp [h11], by simp, by simp, by simp⟩
    intro kk2 hkk2 j e2 rg2 S3 ⟨hj, hS3, g0, g7, g11, g15, gr15, g17⟩ ih2
    subst hS3
    by_cases hc2 : j < i
    · obtain ⟨s, hs⟩ : ∃ s, l[j]? = some s := get_of_lt (by omega)
      have hs' : (l.take i)[j]? = some s := by rw [List.getElem?_take, if_pos hc2]; exact hs
      obtain ⟨p, p1, p2, p3⟩ := hO.at1 hs'
      have w2 : IntKind.i64.wrap ((j : Int) + 1) = ((j + 1 : Nat) : Int) := w64 (by omega)
      have hcj : (j : Int) < (i : Int) := by omega
      simp [f23_l0, g0, g7, g11, g15, gr15, g17, hcj, hvr, p1, p2, p3, lstS_at hs, w2]
      refine ih2 (j + 1) _ _ _ (by omega) (fun _ h => h) ?_
      exact ⟨by omega, rfl, by simp [g0], by simp [g7], by simp [g11], by simp [g15], by simp [gr15], by simp⟩
    · have hj' : j = i := by omega
      subst hj'
      simp [f23_l0, g11, g17]
      rw [hkk2]
      simp [g7]
end
end Abs
