/- CookieEnds, CookieBack: at the machine. -/
import Derived.Test.YtgpcbcbmhlgekaaDoorSr
import Derived.Test.YtgpcbcbmhlgekaaDoorSp
set_option linter.unusedVariables false
set_option linter.unusedSimpArgs false
set_option linter.unusedSectionVars false
namespace Abs
open Go

@[simp] theorem Ck.dr7 (c : Ck) : c.cells.drop 7 = [] := rfl
structure Ck.sm (c : Ck) : Prop where
  client : c.client.size ≤ 1073741824
  nonce : c.nonce.size ≤ 1073741824
  done : doneB c.done ≤ 1073741824
  secret : c.secret.bulk ≤ 1073741824
  upto : inI c.upto
mutual
theorem T.bd_mono {r b : Nat} (hr : r ≤ b) : ∀ {t : T}, t.bd r → t.bd b
  | .mk _ _ l, h => ⟨by have := h.1; omega, by have := h.2.1; omega, bdL_mono hr h.2.2⟩
theorem bdL_mono {r b : Nat} (hr : r ≤ b) : ∀ {l : List T}, bdL r l → bdL b l
  | [], _ => trivial
  | t :: l, h => ⟨T.bd_mono hr h.1, bdL_mono hr h.2⟩
end
theorem bulk_bd {t : T} (h : t.bulk ≤ 1099511627776) : t.bd 140737488355328 := T.bd_mono (r := 48 * 1099511627776) (by omega) (T.bd_bulk h)
theorem doneB_len : ∀ {l : List ByteArray}, l.length * 5 ≤ doneB l
  | [] => Nat.zero_le _
  | s :: l => by have := @doneB_len l; rw [doneB, List.length_cons]; omega
theorem doneB_mem : ∀ {l : List ByteArray}, ∀ s ∈ l, s.size + 5 ≤ doneB l
  | [], s, h => by cases h
  | a :: l, s, h => by
    rw [doneB]
    rcases List.mem_cons.1 h with rfl | h
    · omega
    · have := doneB_mem (l := l) s h; omega
theorem doneB_take : ∀ {l : List ByteArray} {n : Nat}, doneB (l.take n) ≤ doneB l
  | [], n => by simp
  | s :: l, 0 => Nat.zero_le _
  | s :: l, n + 1 => by rw [List.take_succ_cons, doneB, doneB]; have := @doneB_take l n; omega
theorem Ck.sm.few {c : Ck} (h : c.sm) : c.few.sm := ⟨h.client, h.nonce, Nat.le_trans doneB_take h.done, h.secret, h.upto⟩
theorem Ck.sm.bd {c : Ck} (h : c.sm) : c.bd where
  client := by have := h.client; omega
  nonce := by have := h.nonce; omega
  done := by have := h.done; have := @doneB_len c.done; omega
  names := fun s hs => by have := h.done; have := doneB_mem s hs; omega
  upto := h.upto
  secret := bulk_bd (by have := h.secret; omega)
  ofit := T.ofit_bulk (by have := h.secret; omega)
theorem sm_seal {key : T} {c : Ck} (hk : key.bulk ≤ 1073741824) (hc : c.sm) : (sealT key c).bulk ≤ 1099511627776 := by
  have h := seal_bulk (key := key) (c := c) hc.upto
  have := hc.client
  have := hc.nonce
  have := hc.done
  have := hc.secret
  omega
section
variable {S : AS}
theorem b109 {key : T} {c : Ck} (hk : key.bulk ≤ 1073741824) (hc : c.sm) : call 109 [.agg key.cells, .agg c.cells] S = some (.agg (sealT key c).cells, S) :=
  r109 (bulk_bd (by omega)) (T.ofit_bulk (by omega)) hc.bd
theorem b112 {key t : T} {now : Int} (hk : key.bulk ≤ 1099511627776) (ht : t.bulk ≤ 1099511627776) :
    call 112 [.agg key.cells, .agg t.cells, .sc (.int .i64 now)] S = some (.tup [.agg (openP key t now).1.cells, .sc (.int .i64 (openP key t now).2)], S) :=
  r112 (bulk_bd hk) (T.ofit_bulk hk) (bulk_bd ht) (T.ofit_bulk ht)
theorem seal_kind {key : T} {c : Ck} : (sealT key c).kind = if key.fit && c.secret.fit then 4 else 0 := by
  unfold sealT; split <;> rfl
end
end Abs

namespace Abs
open Go

section
variable {S : AS}
theorem z118 : call 118 [.agg tZero.cells, .agg [.i 0, .s ⟨#[]⟩, .lst 0 true []]] S = some (.sc (.bool true), S) := by
  have hz : tZero.fits := ⟨by simp, trivial⟩
  rw [call_nrm a118 (args' := [.agg tZero.cells, .agg tZero.cells]) (by rw [cells_T]; rfl) (by rw [cells_T]; rfl) (by simp; rw [cells_T]; rfl) (by simp) rfl, s118 hz, T.same_self]
end
end Abs

namespace Abs
open Go

theorem open_kind {key t : T} {now : Int} (h : t.kind ≠ 4) : openP key t now = (ckZero, 2) := by
  unfold openP
  rw [if_neg]
  simp [h]
theorem open_two {key t : T} {now : Int} (h : t.kids.length ≠ 6) : openP key (tEnc key t) now = (ckZero, 2) := by
  unfold openP
  split
  · have e : (tEnc key t).kids = [key, t] := rfl
    rw [e]
    simp only [T.same_self, if_true]
    split
    · rename_i heq; rw [heq] at h; simp at h
    · rfl
  · rfl
theorem open_hash {key t : T} {now : Int} (hr : (tEnc (tHash key) t).right = true) (h : (tHash key).same key = false) : openP key (tEnc (tHash key) t) now = (ckZero, 4) := by
  unfold openP
  rw [hr, show (tEnc (tHash key) t).kind = 4 from rfl]
  have e : (tEnc (tHash key) t).kids = [tHash key, t] := rfl
  rw [e]
  simp [h]
theorem hash_rshp {a : T} (ha : a.rshp = true) : (tHash a).rshp = true := by
  unfold tHash
  rw [T.rshp]
  simp [T.one, knd, nmd, kdn, T.kind, T.name, T.kids, rshpL, ha]
theorem hash_ord {a : T} (ha : a.ord = true) : (tHash a).ord = true := by
  unfold tHash
  rw [T.ord]
  simp [shareOk, ordL, ha]
theorem share_kind {a b : T} : (tShare a b).kind = 9 := by unfold tShare; split <;> rfl
theorem share_bulk {a b : T} : (tShare a b).bulk = a.bulk + b.bulk + 4 := by
  unfold tShare; split <;> (rw [mk_bulk, n0, bulkL_cons, bulkL_cons, bulkL_nil]; omega)
theorem mac_bulk {a b : T} : (tMac a b).bulk = a.bulk + b.bulk + 4 := by unfold tMac; rw [mk_bulk, n0, bulkL_cons, bulkL_cons, bulkL_nil]; omega
theorem mask_bulk {a b : T} : (tMask a b).bulk = a.bulk + b.bulk + 4 := by unfold tMask; rw [mk_bulk, n0, bulkL_cons, bulkL_cons, bulkL_nil]; omega
theorem hash_bulk {a : T} : (tHash a).bulk = a.bulk + 4 := by unfold tHash; rw [mk_bulk, n0, bulkL_cons, bulkL_nil]; omega
def nmB (s : ByteArray) : ByteArray := ⟨#[107, 101, 121]⟩ ++ cutS s 20
theorem nmB_size {s : ByteArray} : (nmB s).size ≤ 23 := by
  unfold nmB
  rw [ByteArray.size_append]
  have h1 : (⟨#[107, 101, 121]⟩ : ByteArray).size = 3 := rfl
  have h2 : (cutS s 20).size ≤ 20 := by unfold cutS; rw [ByteArray.size_extract]; omega
  omega
theorem nmB_ne {s : ByteArray} : nmB s ≠ ⟨#[]⟩ := app_nonempty (by show 3 ≠ 0; omega)
theorem p_nmB {s : ByteArray} : pev (.bin .add) [.s ⟨#[107, 101, 121]⟩, .sc (.string (cutS s 20))] = some (.sc (.string (nmB s))) := by
  have h1 : (⟨#[107, 101, 121]⟩ : ByteArray).size = 3 := rfl
  have h2 : (cutS s 20).size ≤ 20 := by unfold cutS; rw [ByteArray.size_extract]; omega
  exact pev_sadd (by omega)
theorem setC3 {c : Ck} {t : T} : List.take 3 c.cells ++ (t.cells ++ List.drop 6 c.cells) = ({ c with secret := t } : Ck).cells := by
  rw [cells_T t]; rfl

section
variable {S : AS}
end
end Abs

namespace Abs
open Go

structure CkTy (P : Program) (ck i s ls t : TypeId) (fs : Array Field) : Prop where
  hs : P.underlying ck = some (.struct fs)
  hf : fs.toList.map (·.type) = [s, s, ls, t, i]
  hls : P.underlying ls = some (.slice s)
  hc1 : P.cellsOf s = 1
section
variable {H : Type} {P : Program} {t i s l : TypeId} {fs : Array Field} {B : DataW H → Nat} {BA : List (DataW H) → Nat} {n : Nat} {ts : List TypeId} {ds : List (DataW H)} {avs : List AV}
theorem rb_str (hB : IsBulk B BA) (hu : P.underlying s = some .string) (h : RdArgs P (s :: ts) ds avs) (hb : BA ds ≤ n) : ∃ (x : ByteArray) (ds' : List (DataW H)) (l : List AV), avs = .sc (.string x) :: l ∧ x.size ≤ n ∧ RdArgs P ts ds' l ∧ BA ds' ≤ n := by
  obtain ⟨d, ds', as, l, rfl, rfl, h1, h2⟩ := rdA_cons h
  obtain ⟨x, rfl, hx, rfl⟩ := rd_str hu h1
  rw [hB.consA, hB.str] at hb
  have : x.data.toList.length = x.size := by simp
  exact ⟨x, ds', l, by rw [argOf_one hu rfl], by omega, h2, by omega⟩
theorem rb_int (hB : IsBulk B BA) (hu : P.underlying i = some (.int .i64)) (h : RdArgs P (i :: ts) ds avs) (hb : BA ds ≤ n) : ∃ (x : Int) (ds' : List (DataW H)) (l : List AV), avs = .sc (.int .i64 x) :: l ∧ (-9223372036854775808 ≤ x ∧ x ≤ 9223372036854775807) ∧ RdArgs P ts ds' l ∧ BA ds' ≤ n := by
  obtain ⟨d, ds', as, l, rfl, rfl, h1, h2⟩ := rdA_cons h
  obtain ⟨x, rfl, hx, rfl⟩ := rd_int hu h1
  rw [hB.consA] at hb
  exact ⟨x, ds', l, by rw [argOf_one hu rfl], i64_in hx, h2, by omega⟩
theorem rb_term (hB : IsBulk B BA) (hT : TermTy P t i s l fs) (h : RdArgs P (t :: ts) ds avs) (hb : BA ds ≤ n) : ∃ (x : T) (ds' : List (DataW H)) (m : List AV), avs = .agg x.cells :: m ∧ x.kr ∧ x.bulk ≤ n ∧ RdArgs P ts ds' m ∧ BA ds' ≤ n := by
  obtain ⟨d, ds', as, m, rfl, rfl, h1, h2⟩ := rdA_cons h
  rw [hB.consA] at hb
  obtain ⟨x, rfl, hk, _, hbk⟩ := (term_of_rd hT hB (sizeOf d + 1)).1 d as (by omega) h1
  exact ⟨x, ds', m, by rw [argOf_struct hT.hs], hk, by omega, h2, by omega⟩
theorem strs_bulk (hB : IsBulk B BA) (hu : P.underlying s = some .string) : ∀ {es : List (DataW H)} {xs : List (List AV)}, RdR P s es xs → ∃ l : List ByteArray, xs = sRow l ∧ doneB l ≤ 5 * BA es
  | _, _, .nil => ⟨[], rfl, Nat.zero_le _⟩
  | _, _, .cons h ht => by
    obtain ⟨x, rfl, _, rfl⟩ := rd_str hu h
    obtain ⟨l, rfl, hl⟩ := strs_bulk hB hu ht
    refine ⟨x :: l, rfl, ?_⟩
    rw [hB.consA, hB.str, doneB]
    have : x.data.toList.length = x.size := by simp
    omega
theorem rb_strs (hB : IsBulk B BA) (hl : P.underlying l = some (.slice s)) (hu : P.underlying s = some .string) (hc : P.cellsOf s = 1) (h : RdArgs P (l :: ts) ds avs) (hb : BA ds ≤ n) : ∃ (x : List ByteArray) (ds' : List (DataW H)) (m : List AV), avs = lstS x :: m ∧ doneB x ≤ 5 * n ∧ RdArgs P ts ds' m ∧ BA ds' ≤ n := by
  obtain ⟨d, ds', as, m, rfl, rfl, h1, h2⟩ := rdA_cons h
  rw [hB.consA] at hb
  obtain ⟨es, xs, rfl, _, hx, hd⟩ := rd_slice hl h1
  obtain ⟨x, rfl, hy⟩ := strs_bulk hB hu hx
  refine ⟨x, ds', m, by rw [argOf_one hl rfl, hc]; rfl, ?_, h2, by omega⟩
  rcases hd with ⟨rfl, rfl⟩ | ⟨rest, rfl⟩
  · rw [hB.nilA] at hy; omega
  · rw [hB.slice] at hb; omega
theorem rb_ck {ck ls : TypeId} {fc : Array Field} (hB : IsBulk B BA) (hT : TermTy P t i s l fs) (hC : CkTy P ck i s ls t fc) (h : RdArgs P (ck :: ts) ds avs) (hb : BA ds ≤ n) : ∃ (c : Ck) (ds' : List (DataW H)) (m : List AV), avs = .agg c.cells :: m ∧ (c.client.size ≤ n ∧ c.nonce.size ≤ n ∧ doneB c.done ≤ 5 * n ∧ c.secret.bulk ≤ n ∧ inI c.upto) ∧ RdArgs P ts ds' m ∧ BA ds' ≤ n := by
  obtain ⟨d, ds', as, m, rfl, rfl, h1, h2⟩ := rdA_cons h
  rw [hB.consA] at hb
  obtain ⟨es, rfl, h⟩ := rd_struct hC.hs h1
  have hfc := hC.hf
  rw [argOf_struct hC.hs]
  have hls := hC.hls
  have hc1 := hC.hc1
  clear hC h1
  obtain ⟨fl⟩ := fc
  simp only at hfc
  have hlen : fl.length = 5 := by have := congrArg List.length hfc; simpa using this
  obtain ⟨f1, f2, f3, f4, f5, rfl⟩ : ∃ f1 f2 f3 f4 f5, fl = [f1, f2, f3, f4, f5] := by
    match fl, hlen with
    | [f1, f2, f3, f4, f5], _ => exact ⟨f1, f2, f3, f4, f5, rfl⟩
  · skip
    simp only [List.map_cons, List.map_nil, List.cons.injEq, and_true] at hfc
    obtain ⟨e1, e2, e3, e4, e5⟩ := hfc
    obtain ⟨d1, r, a1, m1, rfl, rfl, g1, h⟩ := rdF_cons h
    obtain ⟨d2, r, a2, m2, rfl, rfl, g2, h⟩ := rdF_cons h
    obtain ⟨d3, r, a3, m3, rfl, rfl, g3, h⟩ := rdF_cons h
    obtain ⟨d4, r, a4, m4, rfl, rfl, g4, h⟩ := rdF_cons h
    obtain ⟨d5, r, a5, m5, rfl, rfl, g5, h⟩ := rdF_cons h
    obtain ⟨rfl, rfl⟩ := rdF_nil h
    rw [e1] at g1; rw [e2] at g2; rw [e3] at g3; rw [e4] at g4; rw [e5] at g5
    obtain ⟨x1, rfl, _, rfl⟩ := rd_str hT.hst g1
    obtain ⟨x2, rfl, _, rfl⟩ := rd_str hT.hst g2
    obtain ⟨es, xs, rfl, _, hx, hd⟩ := rd_slice hls g3
    obtain ⟨x3, rfl, hy⟩ := strs_bulk hB hT.hst hx
    obtain ⟨x4, rfl, _, _, hbk⟩ := (term_of_rd hT hB (sizeOf d4 + 1)).1 d4 a4 (by omega) g4
    obtain ⟨x5, rfl, hx5, rfl⟩ := rd_int hT.hi g5
    rw [hB.agg, hB.consA, hB.consA, hB.consA, hB.consA, hB.consA, hB.nilA, hB.str, hB.str, hB.int] at hb
    have s1 : x1.data.toList.length = x1.size := by simp
    have s2 : x2.data.toList.length = x2.size := by simp
    refine ⟨⟨x1, x2, x3, x4, x5⟩, ds', m, ?_, ⟨?_, ?_, ?_, ?_, i64_in hx5⟩, h2, by omega⟩
    · rw [cells_T, hc1]; rfl
    · show x1.size ≤ n; omega
    · show x2.size ≤ n; omega
    · show doneB x3 ≤ 5 * n
      rcases hd with ⟨rfl, rfl⟩ | ⟨rest, rfl⟩
      · rw [hB.nilA] at hy; omega
      · rw [hB.slice] at hb; omega
    · show x4.bulk ≤ n; omega
end
end Abs

namespace Abs
open Go

abbrev bl (x : ByteArray) : List UInt8 := x.data.toList
theorem bl_app {x y : ByteArray} : bl (x ++ y) = bl x ++ bl y := by simp [ByteArray.data_append]
theorem bl_inj {x y : ByteArray} (h : bl x = bl y) : x = y := ba_data h
theorem numB_bl {n : Nat} : bl (numB n) = Lib.decDigits n := rfl
theorem digs_cut : ∀ {a b x y : List UInt8}, (∀ c ∈ a, isDig c) → (∀ c ∈ b, isDig c) → a ++ 58 :: x = b ++ 58 :: y → a = b ∧ x = y
  | [], [], x, y, _, _, h => by simp at h; exact ⟨rfl, h⟩
  | [], c :: b, x, y, _, hb, h => by
    simp at h
    have := hb c (by simp)
    rw [← h.1] at this
    exact absurd this (by decide)
  | c :: a, [], x, y, ha, _, h => by
    simp at h
    have := ha c (by simp)
    rw [h.1] at this
    exact absurd this (by decide)
  | c :: a, d :: b, x, y, ha, hb, h => by
    simp only [List.cons_append, List.cons.injEq] at h
    obtain ⟨e1, e2⟩ := digs_cut (fun z hz => ha z (by simp [hz])) (fun z hz => hb z (by simp [hz])) h.2
    exact ⟨by rw [h.1, e1], e2⟩
theorem numB_inj {m n : Nat} (h : numB m = numB n) : m = n := by
  have h1 := (decDigits_dig m).2.1
  have h2 := (decDigits_dig n).2.1
  have : Lib.decDigits m = Lib.decDigits n := by rw [← numB_bl, ← numB_bl, h]
  rw [← h1, this, h2]
theorem name_cut {m n : ByteArray} {x y : List UInt8} (hm : m ≠ ⟨#[]⟩) (hn : n ≠ ⟨#[]⟩) (h : bl (nameT m) ++ x = bl (nameT n) ++ y) : m = n ∧ x = y := by
  unfold nameT at h
  rw [if_neg hm, if_neg hn, bl_app, bl_app, bl_app, bl_app] at h
  have e58 : bl ⟨#[58]⟩ = [58] := rfl
  rw [e58] at h
  simp only [List.append_assoc, List.singleton_append] at h
  obtain ⟨h1, h2⟩ := digs_cut (fun c hc => (decDigits_dig m.size).1 c hc) (fun c hc => (decDigits_dig n.size).1 c hc) h
  have hs : m.size = n.size := numB_inj (bl_inj h1)
  have hl : (bl m).length = (bl n).length := by simp; exact hs
  obtain ⟨e1, e2⟩ := List.append_inj h2 hl
  exact ⟨bl_inj e1, e2⟩
theorem ltr_inj {k l : Int} (hk : knd k = true) (hl : knd l = true) (h : ltr k = ltr l) : k = l := by
  rcases knd_cases hk with rfl | rfl | rfl | rfl | rfl | rfl | rfl | rfl | rfl | rfl <;> rcases knd_cases hl with rfl | rfl | rfl | rfl | rfl | rfl | rfl | rfl | rfl | rfl <;> first | rfl | (exact absurd h (by decide))
def ltb (k : Int) : UInt8 := (bl (ltr k)).headD 0
theorem ltr_bl {k : Int} : bl (ltr k) = [ltb k] := rfl
theorem ltb_ne {k : Int} (hk : knd k = true) : ltb k ≠ 41 ∧ ltb k ≠ 44 := by
  rcases knd_cases hk with rfl | rfl | rfl | rfl | rfl | rfl | rfl | rfl | rfl | rfl <;> decide
theorem text_head {t : T} : ∃ r, bl t.text = ltb t.kind :: r := by
  rw [T.text_def]
  unfold hdT
  split <;> (simp only [bl_app, ltr_bl]; exact ⟨_, rfl⟩)
theorem rshp_ones {t : T} (h : t.rshp = true) : knd t.kind = true ∧ (nmd t.kind = true ↔ t.name ≠ ⟨#[]⟩) ∧ (kdn t.kind < 0 ∨ (t.kids.length : Int) = kdn t.kind) := by
  rw [t.rshp_def, Bool.and_eq_true] at h
  exact T.one_iff.1 h.1
theorem rshp_knd {t : T} (h : t.rshp = true) : knd t.kind = true := (rshp_ones h).1
theorem emp_kind {t : T} (hr : t.rshp = true) : (t.kids.isEmpty && !(decide (t.kind = 3))) = decide (t.kind ≤ 2) := by
  rw [t.rshp_def, Bool.and_eq_true] at hr
  obtain ⟨h1, h2, h3⟩ := T.one_iff.1 hr.1
  have hk := knd_cases h1
  by_cases hc : t.kids = []
  · have hz : t.kids.length = 0 := by rw [hc]; rfl
    rw [hz] at h3
    have : t.kind = 3 ∨ t.kind ≤ 2 := by
      rcases hk with h | h | h | h | h | h | h | h | h | h <;> rw [h] at h3 ⊢ <;> simp [kdn] at h3 <;> omega
    rw [hc]
    by_cases h3' : t.kind = 3
    · simp [h3']
    · have : t.kind ≤ 2 := by omega
      simp [h3', this]
  · have : ¬ t.kind ≤ 2 := by
      intro h
      have : t.kids.length = 0 := by
        rcases (show t.kind = 1 ∨ t.kind = 2 by omega) with h | h <;> rw [h] at h3 <;> simp [kdn] at h3 <;> simp [h3]
      exact hc (List.length_eq_zero_iff.1 this)
    simp [hc, this]
def Inj (t : T) : Prop := ∀ b : T, b.rshp = true → ∀ x y : List UInt8, bl t.text ++ x = bl b.text ++ y → t = b ∧ x = y
theorem bl0 : bl ⟨#[]⟩ = [] := rfl
theorem bl44 : bl ⟨#[44]⟩ = [44] := rfl
theorem comma_inj : ∀ {l : List T}, (∀ t ∈ l, Inj t) → ∀ {m : List T}, (∀ t ∈ m, t.rshp = true) → ∀ {x y : List UInt8}, bl (commaT l) ++ 41 :: x = bl (commaT m) ++ 41 :: y → l = m ∧ x = y
  | [], _, [], _, x, y, h => by
    have h : 41 :: x = 41 :: y := h
    simp at h; exact ⟨rfl, h⟩
  | [], _, b :: m, _, x, y, h => by
    rw [commaT, commaT, bl_app, bl_app] at h
    simp [bl0, bl44] at h
  | a :: l, _, [], _, x, y, h => by
    rw [commaT, commaT, bl_app, bl_app] at h
    simp [bl0, bl44] at h
  | a :: l, hl, b :: m, hm, x, y, h => by
    rw [commaT, commaT, bl_app, bl_app, bl_app, bl_app] at h
    have h : 44 :: (bl a.text ++ (bl (commaT l) ++ 41 :: x)) = 44 :: (bl b.text ++ (bl (commaT m) ++ 41 :: y)) := by simpa [bl0, bl44] using h
    simp only [List.cons.injEq, true_and] at h
    obtain ⟨e1, e2⟩ := hl a (by simp) b (hm b (by simp)) _ _ h
    obtain ⟨e3, e4⟩ := comma_inj (fun t ht => hl t (by simp [ht])) (fun t ht => hm t (by simp [ht])) e2
    exact ⟨by rw [e1, e3], e4⟩
theorem join_inj {l m : List T} (hl : ∀ t ∈ l, Inj t) (hlr : ∀ t ∈ l, t.rshp = true) (hm : ∀ t ∈ m, t.rshp = true) {x y : List UInt8} (h : bl (joinT l) ++ 41 :: x = bl (joinT m) ++ 41 :: y) : l = m ∧ x = y := by
  cases l with
  | nil =>
    cases m with
    | nil =>
      have h : 41 :: x = 41 :: y := h
      simp at h; exact ⟨rfl, h⟩
    | cons b m =>
      obtain ⟨r, hr⟩ := @text_head b
      rw [joinT, joinT, bl_app, hr] at h
      have h : 41 :: x = ltb b.kind :: (r ++ bl (commaT m) ++ 41 :: y) := by simpa [bl0, bl44] using h
      simp only [List.cons.injEq] at h
      exact absurd h.1.symm (ltb_ne (rshp_knd (hm b (by simp)))).1
  | cons a l =>
    cases m with
    | nil =>
      obtain ⟨r, hr⟩ := @text_head a
      rw [joinT, joinT, bl_app, hr] at h
      have h : ltb a.kind :: (r ++ bl (commaT l) ++ 41 :: x) = 41 :: y := by simpa [bl0, bl44] using h
      simp only [List.cons.injEq] at h
      exact absurd h.1 (ltb_ne (rshp_knd (hlr a (by simp)))).1
    | cons b m =>
      rw [joinT, joinT, bl_app, bl_app, List.append_assoc, List.append_assoc] at h
      obtain ⟨e1, e2⟩ := hl a (by simp) b (hm b (by simp)) _ _ h
      obtain ⟨e3, e4⟩ := comma_inj (fun t ht => hl t (by simp [ht])) (fun t ht => hm t (by simp [ht])) e2
      exact ⟨by rw [e1, e3], e4⟩
theorem text_inj : ∀ (n : Nat) (a : T), sizeOf a < n → a.rshp = true → Inj a
  | 0, _, h, _ => by omega
  | n + 1, a, hn, ha => by
    intro b hb x y h
    have ih : ∀ t ∈ a.kids, Inj t := fun t ht => text_inj n t (by have := T.kid_lt ht; omega) (T.rshp_kid ha ht)
    have ka := rshp_knd ha
    have kb := rshp_knd hb
    rw [T.text_def, T.text_def, emp_kind ha, emp_kind hb] at h
    have hk : a.kind = b.kind := by
      apply ltr_inj ka kb
      apply bl_inj
      rw [ltr_bl, ltr_bl]
      unfold hdT at h
      have : ∀ (k : Int) (n : ByteArray) (c : Bool) (z w : ByteArray), ∃ r, bl (if c = true then ltr k ++ nameT n else ltr k ++ nameT n ++ z ++ w ++ ⟨#[41]⟩) = ltb k :: r := by
        intro k n c z w
        cases c <;> (simp only [Bool.false_eq_true, if_true, if_false, bl_app, ltr_bl]; exact ⟨_, rfl⟩)
      obtain ⟨r1, e1⟩ := this a.kind a.name (decide (a.kind ≤ 2)) ⟨#[40]⟩ (joinT a.kids)
      obtain ⟨r2, e2⟩ := this b.kind b.name (decide (b.kind ≤ 2)) ⟨#[40]⟩ (joinT b.kids)
      rw [e1, e2] at h
      simp only [List.cons_append, List.cons.injEq] at h
      rw [h.1]
    have hnm : ∀ z w : List UInt8, bl (nameT a.name) ++ z = bl (nameT b.name) ++ w → a.name = b.name ∧ z = w := by
      intro z w h
      obtain ⟨_, na, _⟩ := rshp_ones ha
      obtain ⟨_, nb, _⟩ := rshp_ones hb
      rw [← hk] at nb
      by_cases hn : nmd a.kind = true
      · exact name_cut (na.1 hn) (nb.1 hn) h
      · have ea : a.name = ⟨#[]⟩ := by by_cases e : a.name = ⟨#[]⟩; exact e; exact absurd (na.2 e) hn
        have eb : b.name = ⟨#[]⟩ := by by_cases e : b.name = ⟨#[]⟩; exact e; exact absurd (nb.2 e) hn
        rw [ea, eb] at h ⊢
        exact ⟨rfl, by simpa using h⟩
    rw [← hk] at h
    have fin : a.name = b.name → a.kids = b.kids → a = b := by
      obtain ⟨k1, n1, l1⟩ := a
      obtain ⟨k2, n2, l2⟩ := b
      intro e1 e2
      have hk : k1 = k2 := hk
      have e1 : n1 = n2 := e1
      have e2 : l1 = l2 := e2
      rw [hk, e1, e2]
    unfold hdT at h
    by_cases h2 : a.kind ≤ 2
    · simp only [h2, decide_true, if_true, bl_app, List.append_assoc] at h
      have h := List.append_cancel_left h
      obtain ⟨e1, e2⟩ := hnm _ _ h
      have l0 : ∀ t : T, t.rshp = true → t.kind ≤ 2 → t.kids = [] := by
        intro t ht h2
        have := emp_kind ht
        simp only [h2, decide_true, Bool.and_eq_true, List.isEmpty_iff] at this
        exact this.1
      exact ⟨fin e1 (by rw [l0 a ha h2, l0 b hb (by rw [← hk]; exact h2)]), e2⟩
    · simp only [h2, decide_false, Bool.false_eq_true, if_false, bl_app, List.append_assoc] at h
      have h := List.append_cancel_left h
      obtain ⟨e1, e2⟩ := hnm _ _ h
      have e40 : bl ⟨#[40]⟩ = [40] := rfl
      have e41 : bl ⟨#[41]⟩ = [41] := rfl
      rw [e40, e41] at e2
      simp only [List.singleton_append, List.cons.injEq, true_and] at e2
      obtain ⟨e3, e4⟩ := join_inj ih (fun t ht => T.rshp_kid ha ht) (fun t ht => T.rshp_kid hb ht) e2
      exact ⟨fin e1 e3, e4⟩
theorem text_same {a b : T} (ha : a.rshp = true) (hb : b.rshp = true) : a.text = b.text ↔ a = b := by
  refine ⟨fun h => ?_, fun h => by rw [h]⟩
  exact (text_inj _ a (Nat.lt_succ_self _) ha b hb [] [] (by rw [h])).1
end Abs
