/- CookieEnds, CookieBack: at the machine. -/
import Derived.Test.YtgpcbcbmhlgekaaDoorSr
import Derived.Test.YtgpcbcbmhlgekaaDoorSp
set_option linter.unusedVariables false
set_option linter.unusedSimpArgs false
set_option linter.unusedSectionVars false
namespace Abs
open Go

@[simp] theorem Ck.dr7 (c : Ck) : c.cells.drop 7 = [] := rfl
structure Ck.sm (c : Ck) : Prop where
  client : c.client.size ≤ 1073741824
  nonce : c.nonce.size ≤ 1073741824
  done : doneB c.done ≤ 1073741824
  secret : c.secret.bulk ≤ 1073741824
  upto : inI c.upto
mutual
theorem T.bd_mono {r b : Nat} (hr : r ≤ b) : ∀ {t : T}, t.bd r → t.bd b
  | .mk _ _ l, h => ⟨by have := h.1; omega, by have := h.2.1; omega, bdL_mono hr h.2.2⟩
theorem bdL_mono {r b : Nat} (hr : r ≤ b) : ∀ {l : List T}, bdL r l → bdL b l
  | [], _ => trivial
  | t :: l, h => ⟨T.bd_mono hr h.1, bdL_mono hr h.2⟩
end
theorem bulk_bd {t : T} (h : t.bulk ≤ 1099511627776) : t.bd 140737488355328 := T.bd_mono (r := 48 * 1099511627776) (by omega) (T.bd_bulk h)
theorem doneB_len : ∀ {l : List ByteArray}, l.length * 5 ≤ doneB l
  | [] => Nat.zero_le _
  | s :: l => by have := @doneB_len l; rw [doneB, List.length_cons]; omega
theorem doneB_mem : ∀ {l : List ByteArray}, ∀ s ∈ l, s.size + 5 ≤ doneB l
  | [], s, h => by cases h
  | a :: l, s, h => by
    rw [doneB]
    rcases List.mem_cons.1 h with rfl | h
    · omega
    · have := doneB_mem (l := l) s h; omega
theorem doneB_take : ∀ {l : List ByteArray} {n : Nat}, doneB (l.take n) ≤ doneB l
  | [], n => by simp
  | s :: l, 0 => Nat.zero_le _
  | s :: l, n + 1 => by rw [List.take_succ_cons, doneB, doneB]; have := @doneB_take l n; omega
theorem Ck.sm.few {c : Ck} (h : c.sm) : c.few.sm := ⟨h.client, h.nonce, Nat.le_trans doneB_take h.done, h.secret, h.upto⟩
theorem Ck.sm.bd {c : Ck} (h : c.sm) : c.bd where
  client := by have := h.client; omega
  nonce := by have := h.nonce; omega
  done := by have := h.done; have := @doneB_len c.done; omega
  names := fun s hs => by have := h.done; have := doneB_mem s hs; omega
  upto := h.upto
  secret := bulk_bd (by have := h.secret; omega)
  ofit := T.ofit_bulk (by have := h.secret; omega)
theorem sm_seal {key : T} {c : Ck} (hk : key.bulk ≤ 1073741824) (hc : c.sm) : (sealT key c).bulk ≤ 1099511627776 := by
  have h := seal_bulk (key := key) (c := c) hc.upto
  have := hc.client
  have := hc.nonce
  have := hc.done
  have := hc.secret
  omega
section
variable {S : AS}
theorem b109 {key : T} {c : Ck} (hk : key.bulk ≤ 1073741824) (hc : c.sm) : call 109 [.agg key.cells, .agg c.cells] S = some (.agg (sealT key c).cells, S) :=
  r109 (bulk_bd (by omega)) (T.ofit_bulk (by omega)) hc.bd
theorem b112 {key t : T} {now : Int} (hk : key.bulk ≤ 1099511627776) (ht : t.bulk ≤ 1099511627776) :
    call 112 [.agg key.cells, .agg t.cells, .sc (.int .i64 now)] S = some (.tup [.agg (openP key t now).1.cells, .sc (.int .i64 (openP key t now).2)], S) :=
  r112 (bulk_bd hk) (T.ofit_bulk hk) (bulk_bd ht) (T.ofit_bulk ht)
theorem seal_kind {key : T} {c : Ck} : (sealT key c).kind = if key.fit && c.secret.fit then 4 else 0 := by
  unfold sealT; split <;> rfl
end
end Abs

namespace Abs
open Go

section
variable {S : AS}
theorem z118 : call 118 [.agg tZero.cells, .agg [.i 0, .s ⟨#[]⟩, .lst 0 true []]] S = some (.sc (.bool true), S) := by
  have hz : tZero.fits := ⟨by simp, trivial⟩
  rw [call_nrm a118 (args' := [.agg tZero.cells, .agg tZero.cells]) (by rw [cells_T]; rfl) (by rw [cells_T]; rfl) (by simp; rw [cells_T]; rfl) (by simp) rfl, s118 hz, T.same_self]
end
end Abs

namespace Abs
open Go

theorem open_kind {key t : T} {now : Int} (h : t.kind ≠ 4) : openP key t now = (ckZero, 2) := by
  unfold openP
  rw [if_neg]
  simp [h]
theorem open_two {key t : T} {now : Int} (h : t.kids.length ≠ 6) : openP key (tEnc key t) now = (ckZero, 2) := by
  unfold openP
  split
  · have e : (tEnc key t).kids = [key, t] := rfl
    rw [e]
    simp only [T.same_self, if_true]
    split
    · rename_i heq; rw [heq] at h; simp at h
    · rfl
  · rfl
theorem open_hash {key t : T} {now : Int} (hr : (tEnc (tHash key) t).right = true) (h : (tHash key).same key = false) : openP key (tEnc (tHash key) t) now = (ckZero, 4) := by
  unfold openP
  rw [hr, show (tEnc (tHash key) t).kind = 4 from rfl]
  have e : (tEnc (tHash key) t).kids = [tHash key, t] := rfl
  rw [e]
  simp [h]
theorem hash_rshp {a : T} (ha : a.rshp = true) : (tHash a).rshp = true := by
  unfold tHash
  rw [T.rshp]
  simp [T.one, knd, nmd, kdn, T.kind, T.name, T.kids, rshpL, ha]
theorem hash_ord {a : T} (ha : a.ord = true) : (tHash a).ord = true := by
  unfold tHash
  rw [T.ord]
  simp [shareOk, ordL, ha]
theorem share_kind {a b : T} : (tShare a b).kind = 9 := by unfold tShare; split <;> rfl
theorem share_bulk {a b : T} : (tShare a b).bulk = a.bulk + b.bulk + 4 := by
  unfold tShare; split <;> (rw [mk_bulk, n0, bulkL_cons, bulkL_cons, bulkL_nil]; omega)
theorem mac_bulk {a b : T} : (tMac a b).bulk = a.bulk + b.bulk + 4 := by unfold tMac; rw [mk_bulk, n0, bulkL_cons, bulkL_cons, bulkL_nil]; omega
theorem mask_bulk {a b : T} : (tMask a b).bulk = a.bulk + b.bulk + 4 := by unfold tMask; rw [mk_bulk, n0, bulkL_cons, bulkL_cons, bulkL_nil]; omega
theorem hash_bulk {a : T} : (tHash a).bulk = a.bulk + 4 := by unfold tHash; rw [mk_bulk, n0, bulkL_cons, bulkL_nil]; omega
def nmB (s : ByteArray) : ByteArray := ⟨#[107, 101, 121]⟩ ++ cutS s 20
theorem nmB_size {s : ByteArray} : (nmB s).size ≤ 23 := by
  unfold nmB
  rw [ByteArray.size_append]
  have h1 : (⟨#[107, 101, 121]⟩ : ByteArray).size = 3 := rfl
  have h2 : (cutS s 20).size ≤ 20 := by unfold cutS; rw [ByteArray.size_extract]; omega
  omega
theorem nmB_ne {s : ByteArray} : nmB s ≠ ⟨#[]⟩ := app_nonempty (by show 3 ≠ 0; omega)
theorem p_nmB {s : ByteArray} : pev (.bin .add) [.s ⟨#[107, 101, 121]⟩, .sc (.string (cutS s 20))] = some (.sc (.string (nmB s))) := by
  have h1 : (⟨#[107, 101, 121]⟩ : ByteArray).size = 3 := rfl
  have h2 : (cutS s 20).size ≤ 20 := by unfold cutS; rw [ByteArray.size_extract]; omega
  exact pev_sadd (by omega)
theorem setC3 {c : Ck} {t : T} : List.take 3 c.cells ++ (t.cells ++ List.drop 6 c.cells) = ({ c with secret := t } : Ck).cells := by
  rw [cells_T t]; rfl

section
variable {S : AS}
end
end Abs

namespace Abs
open Go

structure CkTy (P : Program) (ck i s ls t : TypeId) (fs : Array Field) : Prop where
  hs : P.underlying ck = some (.struct fs)
  hf : fs.toList.map (·.type) = [s, s, ls, t, i]
  hls : P.underlying ls = some (.slice s)
  hc1 : P.cellsOf s = 1
section
variable {H : Type} {P : Program} {t i s l : TypeId} {fs : Array Field} {B : DataW H → Nat} {BA : List (DataW H) → Nat} {n : Nat} {ts : List TypeId} {ds : List (DataW H)} {avs : List AV}
theorem rb_str (hB : IsBulk B BA) (hu : P.underlying s = some .string) (h : RdArgs P (s :: ts) ds avs) (hb : BA ds ≤ n) : ∃ (x : ByteArray) (ds' : List (DataW H)) (l : List AV), avs = .sc (.string x) :: l ∧ x.size ≤ n ∧ RdArgs P ts ds' l ∧ BA ds' ≤ n := by
  obtain ⟨d, ds', as, l, rfl, rfl, h1, h2⟩ := rdA_cons h
  obtain ⟨x, rfl, hx, rfl⟩ := rd_str hu h1
  rw [hB.consA, hB.str] at hb
  have : x.data.toList.length = x.size := by simp
  exact ⟨x, ds', l, by rw [argOf_one hu rfl], by omega, h2, by omega⟩
theorem rb_int (hB : IsBulk B BA) (hu : P.underlying i = some (.int .i64)) (h : RdArgs P (i :: ts) ds avs) (hb : BA ds ≤ n) : ∃ (x : Int) (ds' : List (DataW H)) (l : List AV), avs = .sc (.int .i64 x) :: l ∧ (-9223372036854775808 ≤ x ∧ x ≤ 9223372036854775807) ∧ RdArgs P ts ds' l ∧ BA ds' ≤ n := by
  obtain ⟨d, ds', as, l, rfl, rfl, h1, h2⟩ := rdA_cons h
  obtain ⟨x, rfl, hx, rfl⟩ := rd_int hu h1
  rw [hB.consA] at hb
  exact ⟨x, ds', l, by rw [argOf_one hu rfl], i64_in hx, h2, by omega⟩
theorem rb_term (hB : IsBulk B BA) (hT : TermTy P t i s l fs) (h : RdArgs P (t :: ts) ds avs) (hb : BA ds ≤ n) : ∃ (x : T) (ds' : List (DataW H)) (m : List AV), avs = .agg x.cells :: m ∧ x.kr ∧ x.bulk ≤ n ∧ RdArgs P ts ds' m ∧ BA ds' ≤ n := by
  obtain ⟨d, ds', as, m, rfl, rfl, h1, h2⟩ := rdA_cons h
  rw [hB.consA] at hb
  obtain ⟨x, rfl, hk, _, hbk⟩ := (term_of_rd hT hB (sizeOf d + 1)).1 d as (by omega) h1
  exact ⟨x, ds', m, by rw [argOf_struct hT.hs], hk, by omega, h2, by omega⟩
theorem strs_bulk (hB : IsBulk B BA) (hu : P.underlying s = some .string) : ∀ {es : List (DataW H)} {xs : List (List AV)}, RdR P s es xs → ∃ l : List ByteArray, xs = sRow l ∧ doneB l ≤ 5 * BA es
  | _, _, .nil => ⟨[], rfl, Nat.zero_le _⟩
  | _, _, .cons h ht => by
    obtain ⟨x, rfl, _, rfl⟩ := rd_str hu h
    obtain ⟨l, rfl, hl⟩ := strs_bulk hB hu ht
    refine ⟨x :: l, rfl, ?_⟩
    rw [hB.consA, hB.str, doneB]
    have : x.data.toList.length = x.size := by simp
    omega
theorem rb_strs (hB : IsBulk B BA) (hl : P.underlying l = some (.slice s)) (hu : P.underlying s = some .string) (hc : P.cellsOf s = 1) (h : RdArgs P (l :: ts) ds avs) (hb : BA ds ≤ n) : ∃ (x : List ByteArray) (ds' : List (DataW H)) (m : List AV), avs = lstS x :: m ∧ doneB x ≤ 5 * n ∧ RdArgs P ts ds' m ∧ BA ds' ≤ n := by
  obtain ⟨d, ds', as, m, rfl, rfl, h1, h2⟩ := rdA_cons h
  rw [hB.consA] at hb
  obtain ⟨es, xs, rfl, _, hx, hd⟩ := rd_slice hl h1
  obtain ⟨x, rfl, hy⟩ := strs_bulk hB hu hx
  refine ⟨x, ds', m, by rw [argOf_one hl rfl, hc]; rfl, ?_, h2, by omega⟩
  rcases hd with ⟨rfl, rfl⟩ | ⟨rest, rfl⟩
  · rw [hB.nilA] at hy; omega
  · rw [hB.slice] at hb; omega
theorem rb_ck {ck ls : TypeId} {fc : Array Field} (hB : IsBulk B BA) (hT : TermTy P t i s l fs) (hC : CkTy P ck i s ls t fc) (h : RdArgs P (ck :: ts) ds avs) (hb : BA ds ≤ n) : ∃ (c : Ck) (ds' : List (DataW H)) (m : List AV), avs = .agg c.cells :: m ∧ (c.client.size ≤ n ∧ c.nonce.size ≤ n ∧ doneB c.done ≤ 5 * n ∧ c.secret.bulk ≤ n ∧ inI c.upto) ∧ RdArgs P ts ds' m ∧ BA ds' ≤ n := by
  obtain ⟨d, ds', as, m, rfl, rfl, h1, h2⟩ := rdA_cons h
  rw [hB.consA] at hb
  obtain ⟨es, rfl, h⟩ := rd_struct hC.hs h1
  have hfc := hC.hf
  rw [argOf_struct hC.hs]
  have hls := hC.hls
  have hc1 := hC.hc1
  clear hC h1
  obtain ⟨fl⟩ := fc
  simp only at hfc
  have hlen : fl.length = 5 := by have := congrArg List.length hfc; simpa using this
  obtain ⟨f1, f2, f3, f4, f5, rfl⟩ : ∃ f1 f2 f3 f4 f5, fl = [f1, f2, f3, f4, f5] := by
    match fl, hlen with
    | [f1, f2, f3, f4, f5], _ => exact ⟨f1, f2, f3, f4, f5, rfl⟩
  · skip
    simp only [List.map_cons, List.map_nil, List.cons.injEq, and_true] at hfc
    obtain ⟨e1, e2, e3, e4, e5⟩ := hfc
    obtain ⟨d1, r, a1, m1, rfl, rfl, g1, h⟩ := rdF_cons h
    obtain ⟨d2, r, a2, m2, rfl, rfl, g2, h⟩ := rdF_cons h
    obtain ⟨d3, r, a3, m3, rfl, rfl, g3, h⟩ := rdF_cons h
    obtain ⟨d4, r, a4, m4, rfl, rfl, g4, h⟩ := rdF_cons h
    obtain ⟨d5, r, a5, m5, rfl, rfl, g5, h⟩ := rdF_cons h
    obtain ⟨rfl, rfl⟩ := rdF_nil h
    rw [e1] at g1; rw [e2] at g2; rw [e3] at g3; rw [e4] at g4; rw [e5] at g5
    obtain ⟨x1, rfl, _, rfl⟩ := rd_str hT.hst g1
    obtain ⟨x2, rfl, _, rfl⟩ := rd_str hT.hst g2
    obtain ⟨es, xs, rfl, _, hx, hd⟩ := rd_slice hls g3
    obtain ⟨x3, rfl, hy⟩ := strs_bulk hB hT.hst hx
    obtain ⟨x4, rfl, _, _, hbk⟩ := (term_of_rd hT hB (sizeOf d4 + 1)).1 d4 a4 (by omega) g4
    obtain ⟨x5, rfl, hx5, rfl⟩ := rd_int hT.hi g5
    rw [hB.agg, hB.consA, hB.consA, hB.consA, hB.consA, hB.consA, hB.nilA, hB.str, hB.str, hB.int] at hb
    have s1 : x1.data.toList.length = x1.size := by simp
    have s2 : x2.data.toList.length = x2.size := by simp
    refine ⟨⟨x1, x2, x3, x4, x5⟩, ds', m, ?_, ⟨?_, ?_, ?_, ?_, i64_in hx5⟩, h2, by omega⟩
    · rw [cells_T, hc1]; rfl
    · show x1.size ≤ n; omega
    · show x2.size ≤ n; omega
    · show doneB x3 ≤ 5 * n
      rcases hd with ⟨rfl, rfl⟩ | ⟨rest, rfl⟩
      · rw [hB.nilA] at hy; omega
      · rw [hB.slice] at hb; omega
    · show x4.bulk ≤ n; omega
end
end Abs

namespace Abs
open Go

theorem bulkL_set : ∀ {l : List T} {i : Nat} {w : T}, bulkL (l.set i w) ≤ bulkL l + w.bulk
  | [], i, w => by simp
  | t :: l, 0, w => by rw [List.set_cons_zero, bulkL_cons, bulkL_cons]; omega
  | t :: l, i + 1, w => by rw [List.set_cons_succ, bulkL_cons, bulkL_cons]; have := @bulkL_set l i w; omega
theorem pev_and16 {a : Int} : pev (.bin .and) [.sc (.int .i64 a), .sc (.int .i64 65535)] = some (.sc (.int .i64 (a % 65536))) := pev_and_mask (m := 16) (by omega)
theorem open_forged {key : T} {B : List T} (h6 : B.length = 6) :
    ∃ C : Ck, (openP key (tEnc key (tPair B)) (-9223372036854775808) = (ckZero, 2)) ∨
      (openP key (tEnc key (tPair B)) (-9223372036854775808) = (C, 0) ∧ (sealT key C).same (tEnc key (tPair B)) = true ∧ ∃ k0 k1 k2 k3 k4 k5, B = [k0, k1, k2, k3, k4, k5] ∧ C = readC k1 k2 k3 k4 k5) := by
  obtain ⟨k0, k1, k2, k3, k4, k5, rfl⟩ : ∃ u0 u1 u2 u3 u4 u5, B = [u0, u1, u2, u3, u4, u5] := by
    match B, h6 with
    | [u0, u1, u2, u3, u4, u5], _ => exact ⟨u0, u1, u2, u3, u4, u5, rfl⟩
  refine ⟨readC k1 k2 k3 k4 k5, ?_⟩
  unfold openP
  split
  · have e : (tEnc key (tPair [k0, k1, k2, k3, k4, k5])).kids = [key, tPair [k0, k1, k2, k3, k4, k5]] := rfl
    rw [e]
    simp only [T.same_self, if_true]
    have e2 : (tPair [k0, k1, k2, k3, k4, k5]).kids = [k0, k1, k2, k3, k4, k5] := rfl
    rw [e2]
    simp only
    cases hs : (sealT key (readC k1 k2 k3 k4 k5)).same (tEnc key (tPair [k0, k1, k2, k3, k4, k5])) with
    | false => left; simp
    | true =>
      right
      have hu : inI (readC k1 k2 k3 k4 k5).upto := atoN_in
      have : ¬ (readC k1 k2 k3 k4 k5).upto < -9223372036854775808 := by have := hu.1; omega
      simp only [if_true, if_neg this]
      exact ⟨trivial, trivial, k0, k1, k2, k3, k4, k5, rfl, rfl⟩
  · left; rfl

@[simp] theorem execO_tell {A : AProg} {xs : List AArg} {d : Option Nat} {l : List AIns} {N : Nat} {e : Nat → AV} {rg : Nat → Option (List AV)} {S : AS} {ks : List Kn} :
    execO A (⟨d, .tell, xs, none⟩ :: l) (st N e rg S) ks = contO A ((argvs A e N xs).bind (opev .tell d rg S)) d l N e rg ks := execO_mem rfl
theorem call_nrm2 {k : Nat} {f : AFunc} (h : AA.ext k = none ∧ AA.funcs k = some f ∧ AA.mode k = .calm) {args args' : List AV} {S : AS} (h1 : args.any AV.isReg = args'.any AV.isReg) (h2 : nrmL args = nrmL args') : call k args S = call k args' S := by
  show docall AA (run AA) k args S = docall AA (run AA) k args' S
  unfold docall
  rw [h1, h.1]
  simp only [h.2.1, h.2.2, Option.bind_some, h2]
section
variable {S : AS}
theorem tell_arr {id : Nat} {l : List T} {d : Option Nat} {rg : Nat → Option (List AV)} (hid : S.ro ≤ id) (hh : S.heap id = some (.rows 3 (l.map T.cells))) :
    opev .tell d rg S [.arr id 3 0 l.length none] = some (lstT l, none, kill S [id]) := by
  have e : arrsL [.arr id 3 0 l.length none] = [id] := rfl
  simp only [opev, e]
  rw [if_pos (by simpa using hid)]
  have e2 : S.frzTo S.ro 1 (.arr id 3 0 l.length none) = some (lstT l) := by
    show ((S.slice S.ro id 3 0 l.length).bind fun r => mapO (mapO (S.frzTo S.ro 0)) r).map (lstN 3) = _
    have e3 : S.slice S.ro id 3 0 l.length = some (l.map T.cells) := by
      unfold AS.slice
      rw [if_pos hid, hh]
      simp [List.take_of_length_le]
    rw [e3]
    simp only [Option.bind_some]
    exact (congrArg (Option.map (lstN 3)) mapO_frz)
  rw [e2]; rfl
theorem app_nil {l : List T} {d : Option Nat} {rg : Nat → Option (List AV)} (hl : l.length * 48 ≤ 140737488355328) (hne : l ≠ []) :
    opev (.append 3 48) d rg S [.lst 3 true [], lstT l] = some (.arr S.n 3 0 l.length none, none, S.new (.rows 3 (l.map T.cells))) := by
  have h1 : (l.map T.cells).isEmpty = false := by cases l with | nil => exact absurd rfl hne | cons _ _ => rfl
  simp only [opev, lstT_rows, Option.bind_some, appendA, h1, Bool.false_eq_true, if_false]
  simp [hl]
theorem st_arr {id : Nat} {l : List T} {i : Nat} {w : T} {d : Option Nat} {rg : Nat → Option (List AV)} (hid : S.ro ≤ id) (hh : S.heap id = some (.rows 3 (l.map T.cells))) (hi : i < l.length) :
    opev (.st none 3) d rg S [.ptr id i 0, .agg w.cells] = some (.junk, none, S.set id (some (.rows 3 ((l.set i w).map T.cells)))) := by
  have h1 : (AV.agg w.cells).cells = w.cells := rfl
  have h2 : w.cells.all AV.isCell = true := by rw [cells_T]; rfl
  have h3 : w.cells.length = 3 := by rw [cells_T]; rfl
  have hr : (l.map T.cells)[i]? = some ((l.map T.cells)[i]'(by simpa using hi)) := List.getElem?_eq_getElem (by simpa using hi)
  simp only [opev, h1, h2, h3]
  rw [if_pos ⟨hid, trivial, trivial⟩, hh]
  simp only [hr, Option.bind_some]
  have hl : ((l.map T.cells)[i]'(by simpa using hi)).length = 3 := by rw [List.getElem_map, cells_T]; rfl
  rw [if_pos (by omega)]
  have hs : setCells ((l.map T.cells)[i]'(by simpa using hi)) 0 w.cells = w.cells := by
    unfold setCells
    rw [h3, List.drop_of_length_le (by omega)]; simp
  rw [hs, List.map_set]
set_option maxHeartbeats 8000000 in
set_option maxRecDepth 100000 in
theorem law20 (hS : S.ro ≤ S.n) {key w : T} {c : Ck} {at_ : Int} (hk : key.bulk ≤ 1073741824) (hc : c.sm) (hw : w.bulk ≤ 1073741824) : Tru (call 20 [.agg key.cells, .agg c.cells, .sc (.int .i64 at_), .agg w.cells] S) := by
  rw [call_keep a20 (by simp) rfl]
  have e107 := @s107
  have e110 := fun S => @s110 S c
  have hcf := hc.few
  generalize c.few = d at *
  have fk : key.fits := T.fits_bulk (by omega)
  have fs : d.secret.fits := T.fits_bulk (by have := hcf.secret; omega)
  have fw : w.fits := T.fits_bulk (by omega)
  cases h1 : key.small with
  | false => simp [f20, f20b, e107, e110, s108, fk, h1]
  | true =>
  cases h2 : d.secret.small with
  | false => simp [f20, f20b, e107, e110, s108, fk, fs, h1, h2]
  | true =>
  cases h3 : w.small with
  | false => simp [f20, f20b, e107, e110, s108, fk, fs, fw, h1, h2, h3]
  | true =>
  have e109 := fun S => @b109 S key d hk hcf
  cases hf : (key.fit && d.secret.fit) with
  | false =>
    have hz : sealT key d = tZero := by unfold sealT; rw [hf]; rfl
    rw [hz] at e109
    have z1 : tZero.kids = [] := rfl
    have z2 : tZero.kind = 0 := rfl
    have z3 : tZero.cells = [.i 0, .s ⟨#[]⟩, lstT []] := rfl
    simp [f20, f20b, e107, e110, s108, fk, fs, fw, h1, h2, h3, e109, z1, z2]
  | true =>
    have hx : sealT key d = tEnc key (tPair (bodyT d)) := by unfold sealT; rw [hf]; rfl
    rw [hx] at e109
    have sb : key.bulk + (bulkL (bodyT d) + 4) + 4 ≤ 7516192768 := by
      have h := seal_bulk (key := key) (c := d) hcf.upto
      rw [hx, enc_bulk, pair_bulk] at h
      have := hcf.client
      have := hcf.nonce
      have := hcf.done
      have := hcf.secret
      omega
    have hb6 : (bodyT d).length = 6 := rfl
    generalize bodyT d = B at *
    obtain ⟨i, hi, hi6⟩ : ∃ i : Nat, at_ % 65536 % 6 = (i : Int) ∧ i < 6 := ⟨(at_ % 65536 % 6).toNat, by omega, by omega⟩
    have q1 : (tEnc key (tPair B)).kids = [key, tPair B] := rfl
    have q2 : (tPair B).kids = B := rfl
    have q3 : (tEnc key (tPair B)).kind = 4 := rfl
    have l0 : pev (.iaddr 3) [lstT [key, tPair B], .i 0] = some (.iptr key.cells) := lstT_at (i := 0) rfl
    have l1 : pev (.iaddr 3) [lstT [key, tPair B], .i 1] = some (.iptr (tPair B).cells) := lstT_at (i := 1) rfl
    have hB : B ≠ [] := by rintro rfl; simp at hb6
    have hap := fun d rg => @app_nil S B d rg (by omega) hB
    have hia : pev (.iaddr 3) [.arr S.n 3 0 B.length none, .sc (.int .i64 (i : Int))] = some (.ptr S.n i 0) := by simp [pev]; omega
    have hst := fun d rg => @st_arr (S.new (.rows 3 (B.map T.cells))) S.n B i w d rg hS heap_new (by omega)
    generalize hS2 : (S.new (.rows 3 (B.map T.cells))).set S.n _ = S2 at hst
    have h2n : S2.heap S.n = some (.rows 3 ((B.set i w).map T.cells)) := by rw [← hS2]; exact if_pos rfl
    have hte := fun d rg => @tell_arr S2 S.n (B.set i w) d rg (by rw [← hS2]; exact hS) h2n
    rw [List.length_set] at hte
    generalize hS3 : kill S2 [S.n] = S3 at hte
    have hF6 : (B.set i w).length = 6 := by rw [List.length_set]; exact hb6
    have hFb : (tEnc key (tPair (B.set i w))).bulk ≤ 1099511627776 := by
      rw [enc_bulk, pair_bulk]
      have := @bulkL_set B i w
      omega
    have e112 := fun S => @b112 S key (tEnc key (tPair (B.set i w))) (-9223372036854775808) (by omega) hFb
    generalize hFd : B.set i w = F at *
    obtain ⟨C, hC⟩ := @open_forged key F hF6
    have hmod : pev (.bin .rem) [.sc (.int .i64 (at_ % 65536)), .i 6] = some (.sc (.int .i64 (i : Int))) := by
      rw [pev_rem (by decide), Int.tmod_eq_emod_of_nonneg (by omega), hi]
    have hraw : (AV.agg [.i 4, .s ⟨#[]⟩, .lst 3 true [key.cells, [.i 3, .s ⟨#[]⟩, lstT F]]]).nrm = (AV.agg (tEnc key (tPair F)).cells).nrm := by
      have e1 : (tPair F).cells = [.i 3, .s ⟨#[]⟩, lstT F] := by rw [cells_T]; rfl
      have e2 : (tEnc key (tPair F)).cells = [.i 4, .s ⟨#[]⟩, lstT [key, tPair F]] := by rw [cells_T]; rfl
      rw [← e1, e2]
      have e3 := lstT_nrm' 3 true [key, tPair F] (fun _ => rfl)
      simp only [List.map_cons, List.map_nil] at e3
      simp only [AV.nrm, nrmL] at e3 ⊢
      rw [e3]
      simp
    have e112' : ∀ S, call 112 [.agg key.cells, .agg [.i 4, .s ⟨#[]⟩, .lst 3 true [key.cells, [.i 3, .s ⟨#[]⟩, lstT F]]], .i (-9223372036854775808)] S = call 112 [.agg key.cells, .agg (tEnc key (tPair F)).cells, .i (-9223372036854775808)] S := fun S =>
      call_nrm2 a112 rfl (by simp only [nrmL, hraw])
    have hFf : (tEnc key (tPair F)).fits := T.fits_bulk (by omega)
    have e118' : ∀ t : T, t.fits → ∀ S, call 118 [.agg t.cells, .agg [.i 4, .s ⟨#[]⟩, .lst 3 true [key.cells, [.i 3, .s ⟨#[]⟩, lstT F]]]] S = some (.sc (.bool (t.same (tEnc key (tPair F)))), S) := fun t ht S => by
      rw [← s118 ht]; exact call_nrm2 a118 rfl (by simp only [nrmL, hraw])
    have wr2 : IntKind.i64.wrap 2 = 2 := rfl
    rw [hb6] at hap hia hte
    rcases hC with hC | ⟨hC, hsm, k0, k1, k2, k3, k4, k5, hk6, hCr⟩
    · rw [hC] at e112
      have e112r := fun S => (e112' S).trans (e112 S)
      simp [f20, f20b, e107, e110, s108, fk, fs, fw, h1, h2, h3, e109, pev_and16, q1, q2, q3, l0, l1, hb6, hap, hia, hst, hte, hmod, hi, e112r, wr2]
      rfl
    · rw [hC] at e112
      have e112r := fun S => (e112' S).trans (e112 S)
      have hbd : ∀ u ∈ F, u.bd 140737488355328 ∧ u.ofit := fun u hu => ⟨T.bd_kid (T.bd_kid (bulk_bd hFb) (by rw [show (tEnc key (tPair F)).kids = [key, tPair F] from rfl]; simp)) (u := u) (show u ∈ (tPair F).kids from hu), T.ofit_kid (T.ofit_kid (T.ofit_bulk hFb) (u := tPair F) (by rw [show (tEnc key (tPair F)).kids = [key, tPair F] from rfl]; simp)) hu⟩
      have hok : C.ok := by
        rw [hCr]
        exact readC_ok (hbd k1 (by rw [hk6]; simp)).1 (hbd k2 (by rw [hk6]; simp)).1 (hbd k3 (by rw [hk6]; simp)).1 (hbd k4 (by rw [hk6]; simp)).1 (hbd k4 (by rw [hk6]; simp)).2
      have kof : key.ofit := T.ofit_bulk (by omega)
      have e109c := fun S => @s109 S key C fk kof hok
      have sf := seal_fits (key := key) (c := C) fk hok
      have e118c := e118' _ sf
      rw [hsm] at e118c
      simp [f20, f20b, e107, e110, s108, fk, fs, fw, h1, h2, h3, e109, pev_and16, q1, q2, q3, l0, l1, hb6, hap, hia, hst, hte, hmod, hi, e112r, wr2, e109c, e118c]
end
end Abs
