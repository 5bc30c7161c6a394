/- Cookies, and their seal. -/
import Derived.Test.YtgpcbcbmhlgekaaDoorSq
import Derived.Test.YtgpcbcbmhlgekaaDoorSp
set_option linter.unusedVariables false
set_option linter.unusedSimpArgs false
set_option linter.unusedSectionVars false
namespace Abs
open Go

structure Ck where
  client : ByteArray
  nonce : ByteArray
  done : List ByteArray
  secret : T
  upto : Int
def Ck.cells (c : Ck) : List AV := [.sc (.string c.client), .sc (.string c.nonce), lstS c.done, .sc (.int .i64 c.secret.kind), .sc (.string c.secret.name), lstT c.secret.kids, .sc (.int .i64 c.upto)]
def tZero : T := .mk 0 ⟨#[]⟩ []
def ckZero : Ck := ⟨⟨#[]⟩, ⟨#[]⟩, [], tZero, 0⟩
abbrev zC : List AV := [.s ⟨#[]⟩, .s ⟨#[]⟩, .lst 0 true [], .i 0, .s ⟨#[]⟩, .lst 0 true [], .i 0]
section
variable (c : Ck)
@[simp] theorem Ck.len_cells : c.cells.length = 7 := rfl
@[simp] theorem Ck.cell_cells : c.cells.all AV.isCell = true := rfl
@[simp] theorem Ck.get0 : getCells c.cells 0 1 false = some (.sc (.string c.client)) := rfl
@[simp] theorem Ck.get1 : getCells c.cells 1 1 false = some (.sc (.string c.nonce)) := rfl
@[simp] theorem Ck.get2 : getCells c.cells 2 1 false = some (lstS c.done) := rfl
@[simp] theorem Ck.get3 : getCells c.cells 3 3 true = some (.agg c.secret.cells) := by rw [cells_T]; rfl
@[simp] theorem Ck.get6 : getCells c.cells 6 1 false = some (.sc (.int .i64 c.upto)) := rfl
@[simp] theorem Ck.get7 : getCells c.cells 0 7 true = some (.agg c.cells) := rfl
@[simp] theorem Ck.dt0 : c.cells.take 1 = [.sc (.string c.client)] := rfl
@[simp] theorem Ck.dt1 : (c.cells.drop 1).take 1 = [.sc (.string c.nonce)] := rfl
@[simp] theorem Ck.dt1' : c.cells.tail.take 1 = [.sc (.string c.nonce)] := rfl
@[simp] theorem Ck.dt2 : (c.cells.drop 2).take 1 = [lstS c.done] := rfl
@[simp] theorem Ck.dt3 : (c.cells.drop 3).take 3 = c.secret.cells := by rw [cells_T]; rfl
@[simp] theorem Ck.dt6 : (c.cells.drop 6).take 1 = [.sc (.int .i64 c.upto)] := rfl
@[simp] theorem Ck.nrm_cells : nrmL c.cells = c.cells := by
  unfold Ck.cells
  simp only [nrmL, AV.nrm]
  rw [show (lstS c.done).nrm = lstS c.done from lstS_nrm _, lstT_nrm]
@[simp] theorem Ck.tk7 : c.cells.take 7 = c.cells := rfl
@[simp] theorem Ck.frz_cells (S : AS) (b d : Nat) : mapO (S.frzTo b (d + 1)) c.cells = some c.cells := by
  unfold Ck.cells lstS lstT
  simp
@[simp] theorem Ck.pure_cells : pureL c.cells = true := by
  unfold Ck.cells
  simp [pureL, AV.pure]
end
theorem calm_Ck {S S' : AS} {c : Ck} : calmR S (some (.agg c.cells, S')) = some (.agg c.cells, S) := by
  simp [AV.pure]

/- a cookie's few mechanisms -/
def Ck.few (c : Ck) : Ck := { c with done := c.done.take 20 }
theorem setC2 {c : Ck} {v : AV} : setCells c.cells 2 [v] = [.sc (.string c.client), .sc (.string c.nonce), v, .sc (.int .i64 c.secret.kind), .sc (.string c.secret.name), lstT c.secret.kids, .sc (.int .i64 c.upto)] := rfl
theorem setC2' {c : Ck} {v : AV} : List.take 2 c.cells ++ v :: List.drop 3 c.cells = [.sc (.string c.client), .sc (.string c.nonce), v, .sc (.int .i64 c.secret.kind), .sc (.string c.secret.name), lstT c.secret.kids, .sc (.int .i64 c.upto)] := rfl
theorem calm_few {S S' : AS} {c : Ck} {v : AV} {ds : List ByteArray} (h : S'.frzTo S.n 2 v = some (lstS ds)) :
    calmR S (some (.agg [.sc (.string c.client), .sc (.string c.nonce), v, .sc (.int .i64 c.secret.kind), .sc (.string c.secret.name), lstT c.secret.kids, .sc (.int .i64 c.upto)], S')) = some (.agg ({ c with done := ds } : Ck).cells, S) := by
  have h2 : S'.frzTo S.n 2 (.agg [.sc (.string c.client), .sc (.string c.nonce), v, .sc (.int .i64 c.secret.kind), .sc (.string c.secret.name), lstT c.secret.kids, .sc (.int .i64 c.upto)]) = some (.agg ({ c with done := ds } : Ck).cells) := by
    simp [h, Ck.cells]
  rw [calmR_some, h2]
  simp [AV.pure]
section
variable {S : AS}
theorem s110 {c : Ck} : call 110 [.agg c.cells] S = some (.agg c.few.cells, S) := by
  rw [call_calm a110 rfl (by simp) rfl]
  have hcut : pev (.sliceL 1 false true false) [lstS c.done, .sc (.int .i64 (min (c.done.length : Int) 20))] = some (.lst 1 false (sRow (c.done.take 20))) := @cut_lstS c.done 20
  have hd : (c.done.take 20).length ≤ 20 := by rw [List.length_take]; omega
  have key : ∃ v S', opev (.append 1 16) (some 11) (upd (upd (fun _ => none) 1 c.cells) 2 zC) ⟨S.heap, S.n, S.n⟩ [.lst 1 true [], .lst 1 false (sRow (c.done.take 20))] = some (v, none, S') ∧ v.isReg = false ∧ v.isCell = true ∧ v.cells = [v] ∧ S'.frzTo S.n 2 v = some (lstS (c.done.take 20)) := by
    by_cases h0 : c.done.take 20 = []
    · rw [h0]
      refine ⟨.arr S.n 1 0 0 none, AS.new ⟨S.heap, S.n, S.n⟩ (.rows 1 []), by simp [opev, sRow, rowsOf, appendA], rfl, rfl, rfl, ?_⟩
      have hs : (AS.new ⟨S.heap, S.n, S.n⟩ (.rows 1 [])).slice S.n S.n 1 0 0 = some [] := slice_of heap_new (Nat.le_refl _)
      rw [frzTo_arr hs]; rfl
    · obtain ⟨v, S', ha, hO⟩ := (own_lst (S0 := ⟨S.heap, S.n, S.n⟩) (sz := 1) (rs := []) (Nat.le_refl _)).app (ys := sRow (c.done.take 20)) (x := .lst 1 false (sRow (c.done.take 20))) (bytes := 16) (d := some 11) (rg := upd (upd (fun _ => none) 1 c.cells) 2 zC) (by simp [rowsOf]) (by simpa [sRow] using h0) (by simp; omega)
      exact ⟨v, S', ha, hO.reg, hO.cell, hO.cells, hO.frzS (b := S.n) (d := 1) (Nat.le_refl _)⟩
  obtain ⟨v, S', ha, hr, hce, hcs, hf⟩ := key
  simp only [zC] at ha
  simp [-calmR_some, f110, f110b, hcut, fillR]
  rw [ha]
  simp [-calmR_some, hr, hce, hcs, setC2']
  exact calm_few (by simpa using hf)

/- the seal -/
def dB (l : Nat) (s : ByteArray) : ByteArray := ⟨#[UInt8.ofNat l]⟩ ++ s
def doneT (l : List ByteArray) : List T := l.map fun s => tData (⟨#[100]⟩ ++ s)
def bodyT (c : Ck) : List T := [tData ⟨#[99, 111, 111, 107, 105, 101]⟩, tData (⟨#[99]⟩ ++ c.client), tData (⟨#[110]⟩ ++ c.nonce), tPair (doneT c.done), c.secret, tData (⟨#[117]⟩ ++ itoaB c.upto)]
def sealT (key : T) (c : Ck) : T := if key.fit && c.secret.fit then tEnc key (tPair (bodyT c)) else tZero
structure Ck.ok (c : Ck) : Prop where
  client : c.client.size ≤ 4611686018427387904
  nonce : c.nonce.size ≤ 4611686018427387904
  done : c.done.length * 48 ≤ 140737488355328
  names : ∀ s ∈ c.done, s.size ≤ 4611686018427387904
  upto : inI c.upto
  fits : c.secret.fits
  ofit : c.secret.ofit
theorem doneT_len {l : List ByteArray} : (doneT l).length = l.length := by simp [doneT]
theorem doneT_take {l : List ByteArray} {i : Nat} {s : ByteArray} (h : l[i]? = some s) : (doneT (l.take (i + 1))).map T.cells = (doneT (l.take i)).map T.cells ++ [(tData (⟨#[100]⟩ ++ s)).cells] := by
  rw [List.take_add_one, h]; simp [doneT]
theorem isTs6 {S : AS} {f : Bool} {a b c d e g : T} : IsTs S (.lst 3 f [a.cells, b.cells, c.cells, d.cells, e.cells, g.cells]) [a, b, c, d, e, g] := isTs_lst (l := [a, b, c, d, e, g])
end
end Abs

namespace Abs
open Go

structure IsSs (S : AS) (x : AV) (l : List ByteArray) : Prop where
  reg : x.isReg = false
  len : pev .lenL [x.nrm] = some (.sc (.int .i64 l.length))
  nn : x.nrm.nrm = x.nrm
  rows : ∀ S' : AS, (∀ id, id < S.n → S'.heap id = S.heap id) → rowsOf 1 S' x.nrm = some (sRow l)
section
variable {S : AS}
theorem IsSs.nrm {x : AV} {l : List ByteArray} (h : IsSs S x l) : IsSs S x.nrm l :=
  ⟨by rw [nrm_isReg]; exact h.reg, by rw [h.nn]; exact h.len, by rw [h.nn, h.nn], fun S' h2 => by rw [h.nn]; exact h.rows S' h2⟩
theorem IsSs.cell {y : AV} {l : List ByteArray} (h : IsSs S y l) (hn : y.nrm = y) : y.isCell = true := by
  have := h.rows S fun _ _ => rfl
  rw [hn] at this
  cases y <;> first | rfl | (simp [rowsOf] at this)
theorem isSs_S {l : List ByteArray} : IsSs S (lstS l) l := ⟨rfl, by simp, by simp, fun S' _ => by rw [lstS_nrm]; exact lstS_rows S' l⟩
theorem isSs_arr {id off n : Nat} {lim : Option Nat} {l : List ByteArray} (h : S.slice 0 id 1 off n = some (sRow l)) (hid : id < S.n) (hn : n = l.length) : IsSs S (.arr id 1 off n lim) l := by
  refine ⟨rfl, by subst hn; rfl, rfl, fun S' h2 => ?_⟩
  show rowsOf 1 S' (.arr id 1 off n lim) = _
  simp only [rowsOf, if_true]
  unfold AS.slice at h ⊢
  rw [h2 id hid]; exact h
theorem isSs_nil {z : Nat} {f : Bool} : IsSs S (.lst z f []) [] := by
  refine ⟨rfl, by simp [AV.nrm, nrmR, lstN], by simp [AV.nrm, nrmR, lstN], fun S' _ => by simp [AV.nrm, nrmR, rowsOf, sRow, lstN]⟩
theorem IsSs.at {x : AV} {l : List ByteArray} (h : IsSs S x l) {i : Nat} {t : ByteArray} (ht : l[i]? = some t) : ∃ p, pev (.iaddr 1) [x.nrm, .sc (.int .i64 (i : Int))] = some p ∧ p.isReg = false ∧
    ∀ S' : AS, (∀ id, id < S.n → S'.heap id = S.heap id) → ∀ d rg, opev (.ld none 1 false) d rg S' [p] = some (.sc (.string t), none, S') := by
  have hlen : i < l.length := (List.getElem?_eq_some_iff.1 ht).1
  have hr := h.rows
  have hl := h.len
  generalize x.nrm = y at hr hl ⊢
  have h0 := hr S fun _ _ => rfl
  cases y with
  | lst z f xs =>
    simp only [rowsOf] at h0
    split at h0
    · rename_i hz
      cases h0
      have hne : (sRow l).isEmpty = false := by cases l with
        | nil => simp at hlen
        | cons _ _ => rfl
      rw [hne] at hz
      have hz : z = 1 := by simpa using hz
      subst hz
      exact ⟨.iptr [.sc (.string t)], by simp [pev, sRow, ht], rfl, fun S' _ d rg => by simp⟩
    · cases h0
  | arr id z off n lim =>
    simp only [rowsOf] at h0
    split at h0
    · rename_i hz
      subst hz
      have hn : n = l.length := by
        have hl : (n : Int) = (l.length : Int) := by simpa using hl
        omega
      refine ⟨.ptr id (off + i) 0, by simp [pev]; omega, rfl, fun S' h2 d rg => ?_⟩
      have h1 := hr S' h2
      simp only [rowsOf, if_true] at h1
      unfold AS.slice at h1
      simp only [Nat.zero_le, if_true] at h1
      split at h1
      · rename_i z' rs hh
        split at h1
        · rename_i hc
          simp only [Option.some.injEq] at h1
          have : ((rs.drop off).take n)[i]? = some [.sc (.string t)] := by rw [h1]; simp [sRow, ht]
          rw [List.getElem?_take, if_pos (by omega), List.getElem?_drop] at this
          rw [opev_ld_ptr hh, this]; simp
        · cases h1
      · cases h1
    · cases h0
  | _ => simp [rowsOf] at h0

/- a cookie whose list lies somewhere -/
def ckX (c : Ck) (x : AV) : List AV := [.sc (.string c.client), .sc (.string c.nonce), x, .sc (.int .i64 c.secret.kind), .sc (.string c.secret.name), lstT c.secret.kids, .sc (.int .i64 c.upto)]
theorem ckX_cells {c : Ck} : ckX c (lstS c.done) = c.cells := rfl
section
variable (c : Ck) (x : AV)
@[simp] theorem ckX_len : (ckX c x).length = 7 := rfl
theorem ckX_cell (h : x.isCell = true) : (ckX c x).all AV.isCell = true := by simp [ckX, h]
@[simp] theorem ckX_t0 : (ckX c x).take 1 = [.sc (.string c.client)] := rfl
@[simp] theorem ckX_t1 : ((ckX c x).drop 1).take 1 = [.sc (.string c.nonce)] := rfl
@[simp] theorem ckX_t1' : (ckX c x).tail.take 1 = [.sc (.string c.nonce)] := rfl
@[simp] theorem ckX_t2 : ((ckX c x).drop 2).take 1 = [x] := rfl
@[simp] theorem ckX_t3 : ((ckX c x).drop 3).take 3 = c.secret.cells := by rw [cells_T]; rfl
@[simp] theorem ckX_t6 : ((ckX c x).drop 6).take 1 = [.sc (.int .i64 c.upto)] := rfl
@[simp] theorem ckX_nrm : nrmL (ckX c x) = ckX c x.nrm := by simp [ckX, lstT_nrm]
end
set_option maxHeartbeats 1000000 in
theorem p109 {key : T} {c : Ck} {x : AV} (hx : IsSs S x c.done) (hf : key.fits) (ho : key.ofit) (hc : c.ok) : call 109 [.agg key.cells, .agg (ckX c x)] S = some (.agg (sealT key c).cells, S) := by
  rw [call_calm' a109 (args' := [.agg key.cells, .agg (ckX c x.nrm)]) (by simp) (by simp) rfl]
  have hy := hx.nrm
  have hyn := hx.nn
  generalize x.nrm = y at hy hyn
  have hyr := hy.reg
  have hyc := ckX_cell c y (hy.cell hyn)
  have hyc' := hy.cell hyn
  have hyl := hy.len
  rw [hyn] at hyl
  have e1 := fun S => @s210 S key hf ho
  have e2 := fun S => @s210 S c.secret hc.fits hc.ofit
  unfold sealT
  cases hk : key.fit with
  | false => rw [hk] at e1; simp [f109, f109b, hyc, e1, tZero, T.cells, rowsT, lstN]
  | true =>
    rw [hk] at e1
    cases hs : c.secret.fit with
    | false => rw [hs] at e2; simp [f109, f109b, hyc, hyr, hyl, e1, e2, tZero, T.cells, rowsT, lstN]
    | true =>
      rw [hs] at e2
      simp only [f109]
      simp [-calmR_some, f109b, hyc, hyr, hyl, e1, e2]
      let S0 : AS := ⟨S.heap, S.n, S.n⟩
      refine loop_gen (α := Nat) (R := fun _ r => calmR S r = some (.agg (tEnc key (tPair (bodyT c))).cells, S)) (fun i e rg S' => i ≤ c.done.length ∧ e 2 = .reg 2 0 ∧ rg 2 = some key.cells ∧ e 3 = .reg 3 0 ∧ rg 3 = some (ckX c y) ∧ e 4 = .reg 4 0 ∧ rg 4 = some [.i 0, .s ⟨#[]⟩, .lst 0 true []] ∧ rg 8 = none ∧ e 20 = y ∧ e 21 = .sc (.int .i64 (c.done.length : Nat)) ∧ e 22 = .sc (.int .i64 (i : Nat)) ∧ Own S0 S' 3 (e 5) ((doneT (c.done.take i)).map T.cells)) (fun i => c.done.length - i) ?_ 0 _ _ _ ?_
      rotate_left
      · refine ⟨by omega, by simp, by simp, by simp, by simp, by simp, by simp, by simp, by simp, by simp, by simp, ?_⟩
        simp [doneT]; exact own_nil (Nat.le_refl _)
      intro kk hkk i e rg S' ⟨hi, h2, g2, h3, g3, h4, g4, g8, h20, h21, h22, hO⟩ ih
      have h100 : (⟨#[100]⟩ : ByteArray).size = 1 := rfl
      have h99 : (⟨#[99]⟩ : ByteArray).size = 1 := rfl
      have h110 : (⟨#[110]⟩ : ByteArray).size = 1 := rfl
      have h117 : (⟨#[117]⟩ : ByteArray).size = 1 := rfl
      have hdl := hc.done
      by_cases hlt : i < c.done.length
      · obtain ⟨s, hs⟩ := get_of_lt hlt
        obtain ⟨pt, hpt, hpr, hld⟩ := hy.at hs
        rw [hyn] at hpt
        have hld := hld S' (fun id hid => hO.old.heap id hid) (some 25) rg
        have w2 : IntKind.i64.wrap ((i : Int) + 1) = ((i + 1 : Nat) : Int) := w64 (by omega)
        have hss := hc.names s (List.mem_of_getElem? hs)
        have p : pev (.bin .add) [.s ⟨#[100]⟩, .sc (.string s)] = some (.sc (.string (⟨#[100]⟩ ++ s))) := pev_sadd (by omega)
        have hil : (c.done.take i).length = i := by rw [List.length_take]; omega
        obtain ⟨v', S'', ha, hO', q1, q2, q3⟩ := hO.push (n := i) (bytes := 48) (r := (tData (⟨#[100]⟩ ++ s)).cells) (f := true) (d := some 31) (rg := rg) (by rw [List.length_map, doneT_len, hil]) (by omega)
        have h5r := hO.reg
        rw [← doneT_take hs] at hO'
        simp [-calmR_some, f109_l0, h20, h21, h22, hlt, hyr, hpt, hpr, hld, p, h5r, fillR]
        rw [ha]
        simp [-calmR_some, q1, w2, h20, h21, h22]
        refine ih (i + 1) _ _ _ (by omega) (fun _ h => h) ?_
        exact ⟨by omega, by simp [h2], g2, by simp [h3], g3, by simp [h4], g4, g8, by simp [h20], by simp [h21], by simp, by simpa using hO'⟩
      · have hi' : i = c.done.length := by omega
        subst hi'
        rw [List.take_length] at hO
        have hts := hO.isTs
        have e126 := q126 hts (by rw [doneT_len]; omega)
        have h5r := hO.reg
        have hit := itoaB_le (n := c.upto) (by have := hc.upto; unfold inI at this; omega) (by have := hc.upto; unfold inI at this; omega)
        have e193 := fun S => @c193 S c.upto hc.upto
        have p1 : pev (.bin .add) [.s ⟨#[117]⟩, .sc (.string (itoaB c.upto))] = some (.sc (.string (⟨#[117]⟩ ++ itoaB c.upto))) := pev_sadd (by omega)
        have p2 : pev (.bin .add) [.s ⟨#[99]⟩, .sc (.string c.client)] = some (.sc (.string (⟨#[99]⟩ ++ c.client))) := pev_sadd (by have := hc.client; omega)
        have p3 : pev (.bin .add) [.s ⟨#[110]⟩, .sc (.string c.nonce)] = some (.sc (.string (⟨#[110]⟩ ++ c.nonce))) := pev_sadd (by have := hc.nonce; omega)
        have e126b := fun (S : AS) => q126 (S := S) (x := .lst 3 true [(tData ⟨#[99, 111, 111, 107, 105, 101]⟩).cells, (tData (⟨#[99]⟩ ++ c.client)).cells, (tData (⟨#[110]⟩ ++ c.nonce)).cells, (tPair (doneT c.done)).cells, c.secret.cells, (tData (⟨#[117]⟩ ++ itoaB c.upto)).cells]) (l := bodyT c) isTs6 (by show 6 * 48 ≤ _; omega)
        simp [-calmR_some, f109_l0, h21, h22]
        rw [hkk]
        generalize hv5 : e 5 = v5 at *
        simp [-calmR_some, h2, g2, h3, g3, h4, g4, g8, hv5, h5r, e193, p1, p2, p3, e126, e126b, fillR, calm_T]

theorem s109 {key : T} {c : Ck} (hf : key.fits) (ho : key.ofit) (hc : c.ok) : call 109 [.agg key.cells, .agg c.cells] S = some (.agg (sealT key c).cells, S) := p109 isSs_S hf ho hc
end
end Abs

namespace Abs
open Go

def ckY (cl no : ByteArray) (x s0 s1 s2 : AV) (u : Int) : List AV := [.sc (.string cl), .sc (.string no), x, s0, s1, s2, .sc (.int .i64 u)]
def cutD (s l : ByteArray) : ByteArray := (cutB s l).getD s
section
variable {S : AS}
theorem s315 {b t : T} {i : Nat} {l : ByteArray} (hi : b.kids[i]? = some t) : call 315 [.agg b.cells, .sc (.int .i64 (i : Int)), .sc (.string l)] S = some (.sc (.string (cutD t.name l)), S) := by
  rw [call_calm a315 rfl (by simp) rfl]
  have e := @s195
  unfold cutD
  cases hc : cutB t.name l with
  | none => simp [f315, f315b, lstT_at hi, e, hc, cutV]
  | some r => simp [f315, f315b, lstT_at hi, e, hc, cutV]
theorem c214 {b t : T} {id : Nat} {cl no : ByteArray} {x s0 s1 s2 : AV} {u : Int} (hb : b.kids[1]? = some t) (hh : S.heap id = some (.rows 7 [ckY cl no x s0 s1 s2 u])) (hro : S.ro ≤ id) :
    call 214 [.agg b.cells, .ptr id 0 0] S = some (.tup [], S.set id (some (.rows 7 [ckY (cutD t.name ⟨#[99]⟩) no x s0 s1 s2 u]))) := by
  rw [call_keep a214 (by simp) rfl]
  have e := fun S => @s315 S b t 1 ⟨#[99]⟩ hb
  simp at e
  simp [f214, f214b, e, opev, hh, hro]
  rfl
theorem c215 {b t : T} {id : Nat} {cl no : ByteArray} {x s0 s1 s2 : AV} {u : Int} (hb : b.kids[2]? = some t) (hh : S.heap id = some (.rows 7 [ckY cl no x s0 s1 s2 u])) (hro : S.ro ≤ id) :
    call 215 [.agg b.cells, .ptr id 0 0] S = some (.tup [], S.set id (some (.rows 7 [ckY cl (cutD t.name ⟨#[110]⟩) x s0 s1 s2 u]))) := by
  rw [call_keep a215 (by simp) rfl]
  have e := fun S => @s315 S b t 2 ⟨#[110]⟩ hb
  simp at e
  simp [f215, f215b, e, opev, hh, hro]
  rfl
theorem c217 {b t : T} {id : Nat} {cl no : ByteArray} {x s0 s1 s2 : AV} {u : Int} (hb : b.kids[4]? = some t) (hh : S.heap id = some (.rows 7 [ckY cl no x s0 s1 s2 u])) (hro : S.ro ≤ id) :
    call 217 [.agg b.cells, .ptr id 0 0] S = some (.tup [], S.set id (some (.rows 7 [ckY cl no x (.sc (.int .i64 t.kind)) (.sc (.string t.name)) (lstT t.kids) u]))) := by
  rw [call_keep a217 (by simp) rfl]
  have l4 : pev (.iaddr 3) [lstT b.kids, .i 4] = some (.iptr t.cells) := lstT_at (i := 4) hb
  simp [f217, f217b, l4, opev, hh, hro]
  rw [cells_T]
  rfl
/- what Atoi tells -/
def atoN (s : ByteArray) : Int := match Lib.atoiAll s.data.toList with | .ok v => v | .range => Lib.atoiSat s.data.toList | _ => 0
theorem c218 {b t : T} {id : Nat} {cl no : ByteArray} {x s0 s1 s2 : AV} {u : Int} (hb : b.kids[5]? = some t) (hh : S.heap id = some (.rows 7 [ckY cl no x s0 s1 s2 u])) (hro : S.ro ≤ id) (hs : (cutD t.name ⟨#[117]⟩).size ≤ 281474976710656) :
    call 218 [.agg b.cells, .ptr id 0 0] S = some (.tup [], S.set id (some (.rows 7 [ckY cl no x s0 s1 s2 (atoN (cutD t.name ⟨#[117]⟩))]))) := by
  rw [call_keep a218 (by simp) rfl]
  have e := fun S => @s315 S b t 5 ⟨#[117]⟩ hb
  simp at e
  have e2 := fun S => @c196 S _ hs
  unfold atoN
  generalize cutD t.name ⟨#[117]⟩ = s at *
  cases ha : Lib.atoiAll s.data.toList with
  | ok v =>
    rw [ha] at e2
    simp [f218, f218b, e, e2, opev, hh, hro]
    rfl
  | range =>
    rw [ha] at e2
    simp [f218, f218b, e, e2, opev, hh, hro]
    rfl
  | _ =>
    rw [ha] at e2
    simp [f218, f218b, e, e2, opev, hh, hro]
    rfl

/- an append leaves alone what is not its own -/
theorem append_frame {sz bytes : Nat} {S : AS} {s v : AV} {ys : List (List AV)} {S' : AS} (h : appendA sz bytes S s ys = some (v, S')) {j : Nat} (hj : j < S.n) (hs : ∀ a b c d, s ≠ .arr j a b c d) : S'.heap j = S.heap j ∧ S.n ≤ S'.n ∧ S'.ro = S.ro := by
  have new : ∀ (o : AObj), (S.new o).heap j = S.heap j := fun o => if_neg (by omega)
  unfold appendA at h
  split at h
  · split at h
    · cases h; exact ⟨new _, Nat.le_succ _, rfl⟩
    · cases h; exact ⟨rfl, Nat.le_refl _, rfl⟩
    · cases h; exact ⟨rfl, Nat.le_refl _, rfl⟩
    · cases h
  · split at h
    · split at h
      · cases h; exact ⟨new _, Nat.le_succ _, rfl⟩
      · cases h
    · rename_i id a b c d
      have hne : j ≠ id := by rintro rfl; exact hs _ _ _ _ rfl
      have set : ∀ (o : Option AObj), (S.set id o).heap j = S.heap j := fun o => if_neg hne
      split at h
      · split at h
        · cases h
        · split at h
          · split at h
            · cases h; exact ⟨set _, Nat.le_refl _, rfl⟩
            · split at h
              · cases h; exact ⟨new _, Nat.le_succ _, rfl⟩
              · cases h
          · split at h
            · cases h; exact ⟨set _, Nat.le_refl _, rfl⟩
            · split at h
              · cases h
                refine ⟨?_, Nat.le_succ _, rfl⟩
                show (if j = S.n then _ else (S.set id none).heap j) = _
                rw [if_neg (by omega)]; exact set _
              · cases h
      · cases h
    · cases h
theorem Own.set {S0 S' : AS} {sz : Nat} {v : AV} {rs : List (List AV)} {id : Nat} {o : Option AObj} (h : Own S0 S' sz v rs) (hid : S0.n ≤ id) (hv : ∀ a b c d, v ≠ .arr id a b c d) : Own S0 (S'.set id o) sz v rs := by
  refine ⟨old_set h.old hid, h.ro, ?_⟩
  rcases h.h with ⟨z, rfl, hz⟩ | ⟨id', rfl, hh, h1, h2⟩
  · exact .inl ⟨z, rfl, hz⟩
  · have hne : id' ≠ id := by rintro rfl; exact hv _ _ _ _ rfl
    exact .inr ⟨id', rfl, (if_neg hne).trans hh, h1, h2⟩
theorem Own.ne {S0 S' : AS} {v : AV} {rs : List (List AV)} {id : Nat} {cs : List AV} (h : Own S0 S' 1 v rs) (hh : S'.heap id = some (.rows 7 [cs])) : ∀ a b c d, v ≠ .arr id a b c d := by
  rintro a b c d rfl
  rcases h.h with ⟨z, e, _⟩ | ⟨id', e, h1, _⟩
  · cases e
  · cases e; rw [hh] at h1; cases h1

def doneS (l : List T) : List ByteArray := l.map fun k => cutD k.name ⟨#[100]⟩
theorem doneS_take {l : List T} {i : Nat} {k : T} (h : l[i]? = some k) : sRow (doneS (l.take (i + 1))) = sRow (doneS (l.take i)) ++ [[.sc (.string (cutD k.name ⟨#[100]⟩))]] := by
  rw [List.take_add_one, h]; simp [doneS, sRow]
theorem opev_appA {sz bytes : Nat} {S : AS} {s x : AV} {d : Option Nat} {rg : Nat → Option (List AV)} {v : AV} {S' : AS} {ys : List (List AV)} (hy : rowsOf sz S x = some ys) (h : opev (.append sz bytes) d rg S [s, x] = some (v, none, S')) : appendA sz bytes S s ys = some (v, S') := by
  simp only [opev, hy, Option.bind_some, Option.map_eq_some_iff] at h
  obtain ⟨r, h1, h2⟩ := h
  cases h2; exact h1
set_option maxHeartbeats 1000000 in
theorem c216 {S0 : AS} {b k : T} {id : Nat} {cl no : ByteArray} {x s0 s1 s2 : AV} {u : Int} (hb : b.kids[3]? = some k) (hlen : k.kids.length * 16 ≤ 140737488355328) (hh : S.heap id = some (.rows 7 [ckY cl no x s0 s1 s2 u])) (hro : S.ro ≤ id) (hid : S0.n ≤ id) (hlt : id < S.n) (hO : Own S0 S 1 x (sRow [])) :
    ∃ v S', call 216 [.agg b.cells, .ptr id 0 0] S = some (.tup [], S') ∧ S'.heap id = some (.rows 7 [ckY cl no v s0 s1 s2 u]) ∧ Own S0 S' 1 v (sRow (doneS k.kids)) ∧ S'.ro = S.ro ∧ id < S'.n := by
  rw [call_keep a216 (by simp) rfl]
  have l3 : pev (.iaddr 3) [lstT b.kids, .i 3] = some (.iptr k.cells) := lstT_at (i := 3) hb
  simp only [f216]
  simp [f216b, l3]
  refine loop_genR (α := Nat) (R := fun _ r => ∃ v S', r = some (.tup [], S') ∧ S'.heap id = some (.rows 7 [ckY cl no v s0 s1 s2 u]) ∧ Own S0 S' 1 v (sRow (doneS k.kids)) ∧ S'.ro = S.ro ∧ id < S'.n) (fun i e rg S' => i ≤ k.kids.length ∧ NQ [5, 6, 7, 16, 17, 18, 19, 20, 21, 22, 23, 24, 25, 26, 27, 28, 29, 30, 31, 32, 33, 34, 35] [5] e ∧ e 1 = .ptr id 0 0 ∧ e 13 = lstT k.kids ∧ e 14 = .sc (.int .i64 (k.kids.length : Nat)) ∧ e 15 = .sc (.int .i64 (i : Nat)) ∧ S'.ro = S.ro ∧ id < S'.n ∧ ∃ v, S'.heap id = some (.rows 7 [ckY cl no v s0 s1 s2 u]) ∧ Own S0 S' 1 v (sRow (doneS (k.kids.take i)))) (fun i => k.kids.length - i) (fun _ _ _ _ h => h.2.1) ?_ 0 _ _ _ ?_
  rotate_left
  · refine ⟨by omega, ?_, by simp, by simp, by simp, by simp, rfl, hlt, x, hh, by simpa [doneS] using hO⟩
    repeat (first | exact NQ_ini rfl | refine NQ_put ?_ (by simp))
  intro kk hkk i e rg S' ⟨hi, hq, h1, h13, h14, h15, hr, hlt, v, hh, hO⟩ ih
  by_cases hc : i < k.kids.length
  · obtain ⟨w, hu⟩ := get_of_lt hc
    have w2 : IntKind.i64.wrap ((i : Int) + 1) = ((i + 1 : Nat) : Int) := w64 (by omega)
    have hil : (k.kids.take i).length = i := by rw [List.length_take]; omega
    have e195 : ∀ S, call 195 [.sc (.string w.name), .s ⟨#[100]⟩] S = some (cutV w.name (cutB w.name ⟨#[100]⟩), S) := fun S => s195
    have ex : pev (.extract 0) [cutV w.name (cutB w.name ⟨#[100]⟩)] = some (.sc (.string (cutD w.name ⟨#[100]⟩))) := by
      unfold cutD; cases cutB w.name ⟨#[100]⟩ <;> simp [cutV]
    have ex1 : ∃ b, pev (.extract 1) [cutV w.name (cutB w.name ⟨#[100]⟩)] = some (.sc (.bool b)) := by
      cases cutB w.name ⟨#[100]⟩ <;> simp [cutV]
    obtain ⟨bb, ex1⟩ := ex1
    have cvr : (cutV w.name (cutB w.name ⟨#[100]⟩)).isReg = false := by
      cases cutB w.name ⟨#[100]⟩ <;> simp [cutV, AV.isReg]
    obtain ⟨v', S'', ha, hO', q1, q2, q3⟩ := hO.push (n := i) (bytes := 16) (r := [.sc (.string (cutD w.name ⟨#[100]⟩))]) (f := true) (d := some 32) (rg := upd (upd (fgtR [5] rg) 5 zT) 5 w.cells) (by simp [doneS]; omega) (by omega)
    have hap := opev_appA (ys := [[.sc (.string (cutD w.name ⟨#[100]⟩))]]) (by simp [rowsOf]) ha
    obtain ⟨f1, f2, f3⟩ := append_frame hap hlt (hO.ne hh)
    have hvr := hO.reg
    rw [hh] at f1
    have hro' : S''.ro ≤ id := by rw [f3, hr]; exact hro
    simp only [zT] at ha
    have hld : ∀ d rg, opev (.ld none 1 false) d rg S' [.ptr id 0 2] = some (v, none, S') := fun d rg => by rw [opev_ld_ptr hh]; rfl
    simp [f216_l0, h1, h13, h14, h15, hc, lstT_at hu, e195, ex, ex1, cvr, hvr, hld, fillR]
    rw [ha]
    have hst : ∀ d rg, opev (.st none 1) d rg S'' [.ptr id 0 2, v'] = some (.junk, none, S''.set id (some (.rows 7 [ckY cl no v' s0 s1 s2 u]))) := fun d rg => by
      simp [opev, f1, hro', q2, q3]; exact ⟨by show 3 ≤ 7; omega, rfl⟩
    simp [q1, w2, h1, h15, hst]
    refine ih (i + 1) _ _ _ (by omega) (fun _ h => h) ?_
    rw [← doneS_take hu] at hO'
    refine ⟨by omega, ?_, by simp [h1], by simp [h13], by simp [h14], by simp, by rw [← hr, ← f3]; rfl, by show id < S''.n; omega, v', if_pos rfl, hO'.set hid (hO'.ne f1)⟩
    repeat (first | exact NQ_fgt hq | refine NQ_put ?_ (by simp [q1, cvr]))
  · have hi' : i = k.kids.length := by omega
    subst hi'
    rw [List.take_length] at hO
    simp [f216_l0, h13, h14, h15]
    rw [hkk]
    simp
    exact ⟨v, hh, hO, hr, hlt⟩
end
end Abs

namespace Abs
open Go

def readC (k1 k2 k3 k4 k5 : T) : Ck := ⟨cutD k1.name ⟨#[99]⟩, cutD k2.name ⟨#[110]⟩, doneS k3.kids, k4, atoN (cutD k5.name ⟨#[117]⟩)⟩
def openP (key t : T) (now : Int) : Ck × Int :=
  if t.right && decide (t.kind = 4) then
    match t.kids with
    | [k0, b] => if k0.same key then
        (match b.kids with
        | [_, k1, k2, k3, k4, k5] => if (sealT key (readC k1 k2 k3 k4 k5)).same t then (if (readC k1 k2 k3 k4 k5).upto < now then (ckZero, 5) else (readC k1 k2 k3 k4 k5, 0)) else (ckZero, 2)
        | _ => (ckZero, 2)) else (ckZero, 4)
    | _ => (ckZero, 2)
  else (ckZero, 2)

theorem cutB_le {s p r : ByteArray} (h : cutB s p = some r) : r.size ≤ s.size := by have := cutB_size h; omega
theorem cutD_le {s p : ByteArray} : (cutD s p).size ≤ s.size := by
  unfold cutD
  cases h : cutB s p with
  | none => exact Nat.le_refl _
  | some r => exact cutB_le h
theorem atoN_in {s : ByteArray} : inI (atoN s) := by
  unfold atoN
  cases h : Lib.atoiAll s.data.toList with
  | ok v => exact atoiAll_in h
  | range => show inI (Lib.atoiSat _); unfold Lib.atoiSat inI; split <;> omega
  | _ => exact inI0
section
variable {S : AS}
theorem lstS_nrm' {f : Bool} (l : List ByteArray) : (AV.lst 1 f (sRow l)).nrm = lstS l := by
  rw [AV.nrm, nrm_sRow]; rfl
theorem Own.isSs {S0 S' : AS} {v : AV} {l : List ByteArray} (h : Own S0 S' 1 v (sRow l)) : IsSs S' v l := by
  rcases h.h with ⟨z, rfl, hz⟩ | ⟨id, rfl, hh, h1, h2⟩
  · rcases hz with hz | rfl
    · have : l = [] := by cases l with | nil => rfl | cons _ _ => simp [sRow] at hz
      subst this; exact isSs_nil
    · refine ⟨rfl, ?_, ?_, fun S' _ => ?_⟩
      · rw [lstS_nrm' l]; simp
      · rw [lstS_nrm' l]; simp
      · rw [lstS_nrm' l]; exact lstS_rows S' l
  · exact isSs_arr (slice_of hh (Nat.zero_le _)) h2 (by simp)
theorem rd112 {b k0 k1 k2 k3 k4 k5 : T} (hb : b.kids = [k0, k1, k2, k3, k4, k5]) (h3 : k3.kids.length * 16 ≤ 140737488355328) (h5 : k5.name.size ≤ 281474976710656) :
    ∃ (S2 S3 S4 S5 S6 : AS) (v : AV), call 214 [.agg b.cells, .ptr S.n 0 0] (AS.new ⟨S.heap, S.n, S.n⟩ (.rows 7 [zC])) = some (.tup [], S2) ∧ call 215 [.agg b.cells, .ptr S.n 0 0] S2 = some (.tup [], S3) ∧
      call 216 [.agg b.cells, .ptr S.n 0 0] S3 = some (.tup [], S4) ∧ call 217 [.agg b.cells, .ptr S.n 0 0] S4 = some (.tup [], S5) ∧ call 218 [.agg b.cells, .ptr S.n 0 0] S5 = some (.tup [], S6) ∧
      S6.heap S.n = some (.rows 7 [ckX (readC k1 k2 k3 k4 k5) v]) ∧ Own ⟨S.heap, S.n, S.n⟩ S6 1 v (sRow (doneS k3.kids)) := by
  let S0 : AS := ⟨S.heap, S.n, S.n⟩
  let S1 : AS := S0.new (.rows 7 [zC])
  have o1 : Old S0 S1 := old_new
  have h1 : S1.heap S.n = some (.rows 7 [ckY ⟨#[]⟩ ⟨#[]⟩ (.lst 0 true []) (.i 0) (.s ⟨#[]⟩) (.lst 0 true []) 0]) := heap_new
  have e1 := c214 (S := S1) (b := b) (t := k1) (by rw [hb]; rfl) h1 (Nat.le_refl _)
  generalize hS2 : S1.set S.n _ = S2 at e1
  have o2 : Old S0 S2 := by rw [← hS2]; exact old_set o1 (Nat.le_refl _)
  have n2 : S2.n = S.n + 1 := by rw [← hS2]; rfl
  have r2 : S2.ro = S.n := by rw [← hS2]; rfl
  have h2 : S2.heap S.n = some (.rows 7 [ckY (cutD k1.name ⟨#[99]⟩) ⟨#[]⟩ (.lst 0 true []) (.i 0) (.s ⟨#[]⟩) (.lst 0 true []) 0]) := by rw [← hS2]; exact if_pos rfl
  have e2 := c215 (S := S2) (b := b) (t := k2) (by rw [hb]; rfl) h2 (by omega)
  generalize hS3 : S2.set S.n _ = S3 at e2
  have o3 : Old S0 S3 := by rw [← hS3]; exact old_set o2 (Nat.le_refl _)
  have n3 : S3.n = S.n + 1 := by rw [← hS3]; exact n2
  have r3 : S3.ro = S.n := by rw [← hS3]; exact r2
  have h3' : S3.heap S.n = some (.rows 7 [ckY (cutD k1.name ⟨#[99]⟩) (cutD k2.name ⟨#[110]⟩) (.lst 0 true []) (.i 0) (.s ⟨#[]⟩) (.lst 0 true []) 0]) := by rw [← hS3]; exact if_pos rfl
  obtain ⟨v, S4, e3, h4, hO4, r4, n4⟩ := c216 (S0 := S0) (S := S3) (b := b) (k := k3) (by rw [hb]; rfl) h3 h3' (by omega) (Nat.le_refl _) (by omega) ⟨o3, by rw [r3]; exact Nat.le_refl _, .inl ⟨0, rfl, .inl rfl⟩⟩
  have e4 := c217 (S := S4) (b := b) (t := k4) (by rw [hb]; rfl) h4 (by omega)
  generalize hS5 : S4.set S.n _ = S5 at e4
  have h5' : S5.heap S.n = some (.rows 7 [ckY (cutD k1.name ⟨#[99]⟩) (cutD k2.name ⟨#[110]⟩) v (.sc (.int .i64 k4.kind)) (.sc (.string k4.name)) (lstT k4.kids) 0]) := by rw [← hS5]; exact if_pos rfl
  have r5 : S5.ro = S.n := by rw [← hS5]; show S4.ro = _; omega
  have hO5 : Own S0 S5 1 v (sRow (doneS k3.kids)) := by rw [← hS5]; exact hO4.set (Nat.le_refl _) (hO4.ne h4)
  have e5 := c218 (S := S5) (b := b) (t := k5) (by rw [hb]; rfl) h5' (by omega) (Nat.le_trans cutD_le h5)
  refine ⟨S2, S3, S4, S5, _, v, e1, e2, e3, e4, e5, if_pos rfl, hO5.set (Nat.le_refl _) (hO5.ne h5')⟩

theorem T.enc_kids {t : T} (h : t.rshp = true) (h4 : t.kind = 4) : ∃ a b, t.kids = [a, b] := by
  rw [t.rshp_def, Bool.and_eq_true] at h
  obtain ⟨_, _, h3⟩ := T.one_iff.1 h.1
  have hk : kdn t.kind = 2 := by rw [h4]; rfl
  have : t.kids.length = 2 := by omega
  match hl : t.kids, this with
  | [a, b], _ => exact ⟨a, b, rfl⟩
theorem T.bd_kid {r : Nat} {t u : T} (h : t.bd r) (hu : u ∈ t.kids) : u.bd r := by
  obtain ⟨k, n, l⟩ := t
  exact bdL_iff.1 h.2.2 u hu
theorem T.bd_len {r : Nat} {t : T} (h : t.bd r) : t.kids.length * 48 ≤ r := by
  obtain ⟨k, n, l⟩ := t
  exact h.2.1
theorem T.bd_name {r : Nat} {t : T} (h : t.bd r) : t.name.size ≤ r := by
  obtain ⟨k, n, l⟩ := t
  exact h.1
theorem T.ofit_kid {t u : T} (h : t.ofit) (hu : u ∈ t.kids) : u.ofit := (t.ofit_def.1 h).2 u hu
theorem readC_ok {k1 k2 k3 k4 k5 : T} (h1 : k1.bd 140737488355328) (h2 : k2.bd 140737488355328) (h3 : k3.bd 140737488355328) (h4 : k4.bd 140737488355328) (ho : k4.ofit) : (readC k1 k2 k3 k4 k5).ok where
  client := by have := @cutD_le k1.name ⟨#[99]⟩; have := T.bd_name h1; show (cutD _ _).size ≤ _; omega
  nonce := by have := @cutD_le k2.name ⟨#[110]⟩; have := T.bd_name h2; show (cutD _ _).size ≤ _; omega
  done := by have := T.bd_len h3; show (doneS k3.kids).length * 48 ≤ _; unfold doneS; rw [List.length_map]; exact this
  names := by
    intro s hs
    obtain ⟨u, hu, rfl⟩ := List.mem_map.1 hs
    have := @cutD_le u.name ⟨#[100]⟩
    have := T.bd_name (T.bd_kid h3 hu)
    omega
  upto := atoN_in
  fits := T.fits_bd (by omega) h4
  ofit := ho
theorem fits_doneT {l : List ByteArray} : fitsL (doneT l) := by
  rw [fitsL_iff]; intro t ht
  obtain ⟨s, _, rfl⟩ := List.mem_map.1 ht
  exact ⟨by simp, trivial⟩
theorem seal_fits {key : T} {c : Ck} (hf : key.fits) (hc : c.ok) : (sealT key c).fits := by
  unfold sealT
  split
  · have hd := hc.done
    have e : (tPair (doneT c.done)).fits := ⟨by rw [doneT_len]; omega, fits_doneT⟩
    refine ⟨by simp, hf, ⟨by simp [bodyT], ?_⟩, trivial⟩
    have f0 : ∀ s, (tData s).fits := fun s => ⟨by simp, trivial⟩
    exact ⟨f0 _, f0 _, f0 _, e, hc.fits, f0 _, trivial⟩
  · exact ⟨by simp, trivial⟩
theorem calm_zC {S S' : AS} {n : Int} : calmR S (some (.tup [.agg zC, .sc (.int .i64 n)], S')) = some (.tup [.agg ckZero.cells, .sc (.int .i64 n)], S) := by
  simp [ckZero, Ck.cells, tZero, T.kind, T.name, T.kids, lstS, lstT, lstN, sRow, AV.pure]
theorem opev_ld7 {S : AS} {id : Nat} {cs : List AV} {d : Option Nat} {rg : Nat → Option (List AV)} (hh : S.heap id = some (.rows 7 [cs])) (hl : cs.length = 7) : opev (.ld none 7 true) d rg S [.ptr id 0 0] = some (.agg cs, none, S) := by
  rw [opev_ld_ptr hh]
  have : cs.take 7 = cs := List.take_of_length_le (by omega)
  simp [hl, this]
set_option maxHeartbeats 4000000 in
set_option maxRecDepth 100000 in
theorem p112 {key t : T} {now : Int} (hf : key.fits) (ho : key.ofit) (ht : t.bd 140737488355328) (hto : t.ofit) :
    call 112 [.agg key.cells, .agg t.cells, .sc (.int .i64 now)] S = some (.tup [.agg (openP key t now).1.cells, .sc (.int .i64 (openP key t now).2)], S) := by
  rw [call_calm a112 rfl (by simp) rfl]
  have htf := T.fits_bd (r := 140737488355328) (by omega) ht
  have e116 := fun S => @s116 S t htf hto
  unfold openP
  cases hr : t.right with
  | false =>
    rw [hr] at e116
    simp [-calmR_some, f112, f112b, e116]
    exact calm_zC
  | true =>
    rw [hr] at e116
    by_cases h4 : t.kind = 4
    · obtain ⟨k0, b, hab⟩ := T.enc_kids (T.right_iff.1 hr).1 h4
      have m0 : k0 ∈ t.kids := by rw [hab]; simp
      have mb : b ∈ t.kids := by rw [hab]; simp
      have l0 : pev (.iaddr 3) [lstT t.kids, .i 0] = some (.iptr k0.cells) := lstT_at (i := 0) (by rw [hab]; rfl)
      have l1 : pev (.iaddr 3) [lstT t.kids, .i 1] = some (.iptr b.cells) := lstT_at (i := 1) (by rw [hab]; rfl)
      have f0 : k0.fits := (T.fits_kids htf).2 k0 m0
      have bb := T.bd_kid ht mb
      cases hs : k0.same key with
      | false =>
        simp [-calmR_some, f112, f112b, e116, eq_true h4, l0, f0, hs, hab]
        exact calm_zC
      | true =>
        by_cases h6 : b.kids.length = 6
        · obtain ⟨k0', k1, k2, k3, k4, k5, hb⟩ : ∃ u0 u1 u2 u3 u4 u5, b.kids = [u0, u1, u2, u3, u4, u5] := by
            match hl : b.kids, h6 with
            | [u0, u1, u2, u3, u4, u5], _ => exact ⟨u0, u1, u2, u3, u4, u5, rfl⟩
          have h6' : (b.kids.length : Int) = 6 := by omega
          have bk : ∀ u ∈ b.kids, u.bd 140737488355328 := fun u hu => T.bd_kid bb hu
          have b1 := bk k1 (by rw [hb]; simp)
          have b2 := bk k2 (by rw [hb]; simp)
          have b3 := bk k3 (by rw [hb]; simp)
          have b4 := bk k4 (by rw [hb]; simp)
          have b5 := bk k5 (by rw [hb]; simp)
          have o4 := T.ofit_kid (T.ofit_kid hto mb) (u := k4) (by rw [hb]; simp)
          have hok := readC_ok b1 b2 b3 b4 (k5 := k5) o4
          obtain ⟨S2, S3, S4, S5, S6, v, c1, c2, c3, c4, c5, hh, hO⟩ := @rd112 S b k0' k1 k2 k3 k4 k5 hb (by have := T.bd_len b3; omega) (by have := T.bd_name b5; omega)
          have e109 := p109 (S := S6) (key := key) (c := readC k1 k2 k3 k4 k5) hO.isSs hf ho hok
          have sf := seal_fits hf hok
          have hv := hO.reg
          have hfz := hO.frzS (b := S.n) (d := 1) (Nat.le_refl _)
          have ld7 := fun d rg => @opev_ld7 S6 S.n _ d rg hh rfl
          have ld6 : ∀ d rg, opev (.ld none 1 false) d rg S6 [.ptr S.n 0 6] = some (.sc (.int .i64 (readC k1 k2 k3 k4 k5).upto), none, S6) := fun d rg => by rw [opev_ld_ptr hh]; rfl
          have hdone : (readC k1 k2 k3 k4 k5).done = doneS k3.kids := rfl
          rw [hab]
          simp only [Bool.true_and, h4, decide_true, if_true, hs, hb]
          generalize readC k1 k2 k3 k4 k5 = C at *
          simp only [f112]
          simp [-calmR_some, f112b, e116, eq_true h4, l0, l1, f0, hs, h6, h6', fillR]
          have wr1 : IntKind.i64.wrap 1 = 1 := rfl
          have wr2 : IntKind.i64.wrap 2 = 2 := rfl
          have wr3 : IntKind.i64.wrap 3 = 3 := rfl
          have wr4 : IntKind.i64.wrap 4 = 4 := rfl
          have wr5 : IntKind.i64.wrap 5 = 5 := rfl
          have ah : ∀ d rg (S : AS), opev (.alloc .heap [.s ⟨#[]⟩, .s ⟨#[]⟩, .lst 0 true [], .i 0, .s ⟨#[]⟩, .lst 0 true [], .i 0]) d rg S [] = some (.ptr S.n 0 0, none, S.new (.rows 7 [zC])) := fun d rg S => by simp [opev, zC]
          simp [-calmR_some, ah]
          rw [exec_loop]
          generalize hkk : (Kn.loop _ _ f112_l0 :: _) = kk
          simp [-calmR_some, f112_l0, pev_iaddrL, wr1, wr2, wr3, wr4, wr5, c1]
          rw [← hkk, unw_loop]
          rw [exec_loop]
          generalize hkk : (Kn.loop _ _ f112_l0 :: _) = kk
          simp [-calmR_some, f112_l0, pev_iaddrL, wr1, wr2, wr3, wr4, wr5, c2]
          rw [← hkk, unw_loop]
          rw [exec_loop]
          generalize hkk : (Kn.loop _ _ f112_l0 :: _) = kk
          simp [-calmR_some, f112_l0, pev_iaddrL, wr1, wr2, wr3, wr4, wr5, c3]
          rw [← hkk, unw_loop]
          rw [exec_loop]
          generalize hkk : (Kn.loop _ _ f112_l0 :: _) = kk
          simp [-calmR_some, f112_l0, pev_iaddrL, wr1, wr2, wr3, wr4, wr5, c4]
          rw [← hkk, unw_loop]
          rw [exec_loop]
          generalize hkk : (Kn.loop _ _ f112_l0 :: _) = kk
          simp [-calmR_some, f112_l0, pev_iaddrL, wr1, wr2, wr3, wr4, wr5, c5]
          rw [← hkk, unw_loop]
          rw [exec_loop]
          generalize hkk : (Kn.loop _ _ f112_l0 :: _) = kk
          simp [-calmR_some, f112_l0]
          rw [← hkk]
          cases hsm : (sealT key C).same t with
          | false =>
            simp [-calmR_some, ld7, ld6, hv, e109, sf, hsm]
            exact calm_zC
          | true =>
            by_cases hnow : C.upto < now
            · simp [-calmR_some, ld7, ld6, hv, e109, sf, hsm, hnow]
              exact calm_zC
            · have hvc := hO.cell
              have hall : (ckX C v).all AV.isCell = true := ckX_cell C v hvc
              have hall' : ∀ x ∈ ckX C v, x.isCell = true := List.all_eq_true.1 hall
              have htk : (ckX C v).take 7 = ckX C v := rfl
              simp [-calmR_some, ld7, ld6, hv, e109, sf, hsm, hnow, hall, hall', htk]
              have e1 : (calmR S (some (.tup [.agg (ckX C v), .i 0], S6))) = some (.tup [.agg C.cells, .i 0], S) := by
                have hf2 : mapO (S6.frzTo S.n 2) (ckX C v) = some C.cells := by
                  unfold ckX Ck.cells
                  rw [hdone]
                  simp [hfz]
                simp [hf2, AV.pure]
              exact e1
        · have h6' : ¬ (b.kids.length : Int) = 6 := by omega
          have hm : (match b.kids with
            | [_, k1, k2, k3, k4, k5] => if (sealT key (readC k1 k2 k3 k4 k5)).same t then (if (readC k1 k2 k3 k4 k5).upto < now then (ckZero, (5 : Int)) else (readC k1 k2 k3 k4 k5, 0)) else (ckZero, 2)
            | _ => (ckZero, 2)) = (ckZero, 2) := by
            split
            · rename_i heq; rw [heq] at h6; simp at h6
            · rfl
          rw [hab]
          simp only [Bool.true_and, h4, decide_true, if_true, hs, hm]
          simp [-calmR_some, f112, f112b, e116, eq_true h4, l0, l1, f0, hs, h6']
          exact calm_zC
    · simp [-calmR_some, f112, f112b, e116, h4]
      exact calm_zC
end
end Abs

namespace Abs
open Go

theorem cutD_app {p r : ByteArray} : cutD (p ++ r) p = r := by unfold cutD; rw [cutB_app]; rfl
theorem atoN_itoa {n : Int} (h : inI n) : atoN (itoaB n) = n := by
  unfold atoN
  rw [itoaB_list, atoi_itoa h.1 h.2]
theorem doneS_T {l : List ByteArray} : doneS (doneT l) = l := by
  unfold doneS doneT
  rw [List.map_map]
  have : ((fun k : T => cutD k.name ⟨#[100]⟩) ∘ fun s => tData (⟨#[100]⟩ ++ s)) = id := by
    funext s; exact cutD_app
  rw [this, List.map_id]
theorem readC_body {c : Ck} (h : inI c.upto) : readC (tData (⟨#[99]⟩ ++ c.client)) (tData (⟨#[110]⟩ ++ c.nonce)) (tPair (doneT c.done)) c.secret (tData (⟨#[117]⟩ ++ itoaB c.upto)) = c := by
  unfold readC
  have e1 : cutD (tData (⟨#[99]⟩ ++ c.client)).name ⟨#[99]⟩ = c.client := cutD_app
  have e2 : cutD (tData (⟨#[110]⟩ ++ c.nonce)).name ⟨#[110]⟩ = c.nonce := cutD_app
  have e3 : cutD (tData (⟨#[117]⟩ ++ itoaB c.upto)).name ⟨#[117]⟩ = itoaB c.upto := cutD_app
  have e4 : doneS (tPair (doneT c.done)).kids = c.done := doneS_T
  rw [e1, e2, e3, e4, atoN_itoa h]
theorem fit_iff {t : T} : t.fit = true ↔ t.rshp = true ∧ t.ord = true ∧ t.dp ≤ 57 := by
  unfold T.fit T.right
  simp only [Bool.and_eq_true, decide_eq_true_eq]
  constructor
  · rintro ⟨⟨⟨a, b⟩, c⟩, d⟩; exact ⟨a, c, d⟩
  · rintro ⟨a, c, d⟩; exact ⟨⟨⟨a, by omega⟩, c⟩, d⟩
theorem app_nonempty {x y : ByteArray} (h : x.size ≠ 0) : x ++ y ≠ ⟨#[]⟩ := by
  intro e
  have := congrArg ByteArray.size e
  rw [ByteArray.size_append] at this
  have h0 : (⟨#[]⟩ : ByteArray).size = 0 := rfl
  omega
theorem data_rshp {s : ByteArray} (h : s ≠ ⟨#[]⟩) : (tData s).rshp = true := by
  unfold tData
  rw [T.rshp]
  simp [T.one, knd, nmd, kdn, T.kind, T.name, T.kids, rshpL, h]
theorem data_ord {s : ByteArray} : (tData s).ord = true := rfl
theorem pair_rshp {l : List T} (h : ∀ t ∈ l, t.rshp = true) : (tPair l).rshp = true := by
  unfold tPair
  rw [T.rshp, rshpL_iff.2 h]
  simp [T.one, knd, nmd, kdn, T.kind, T.name, T.kids]
theorem pair_ord {l : List T} (h : ∀ t ∈ l, t.ord = true) : (tPair l).ord = true := by
  unfold tPair
  rw [T.ord, ordL_all, List.all_eq_true.2 h]; rfl
theorem enc_rshp {a b : T} (ha : a.rshp = true) (hb : b.rshp = true) : (tEnc a b).rshp = true := by
  unfold tEnc
  rw [T.rshp]
  simp [T.one, knd, nmd, kdn, T.kind, T.name, T.kids, rshpL, ha, hb]
theorem enc_ord {a b : T} (ha : a.ord = true) (hb : b.ord = true) : (tEnc a b).ord = true := by
  unfold tEnc
  rw [T.ord]
  simp [shareOk, ordL, ha, hb]
theorem dpL_le {l : List T} {n : Nat} (h : ∀ t ∈ l, t.dp ≤ n) : dpL l ≤ n := by
  induction l with
  | nil => exact Nat.zero_le _
  | cons t l ih => rw [dpL]; exact Nat.max_le.2 ⟨h t (by simp), ih fun x hx => h x (by simp [hx])⟩
theorem sz1 {b : UInt8} : (⟨#[b]⟩ : ByteArray).size ≠ 0 := by show 1 ≠ 0; omega
theorem body_rshp {c : Ck} (h : c.secret.rshp = true) : ∀ t ∈ bodyT c, t.rshp = true := by
  intro t ht
  simp only [bodyT, List.mem_cons, List.not_mem_nil, or_false] at ht
  rcases ht with rfl | rfl | rfl | rfl | rfl | rfl
  · exact data_rshp (by decide)
  · exact data_rshp (app_nonempty sz1)
  · exact data_rshp (app_nonempty sz1)
  · refine pair_rshp fun u hu => ?_
    obtain ⟨s, _, rfl⟩ := List.mem_map.1 hu
    exact data_rshp (app_nonempty sz1)
  · exact h
  · exact data_rshp (app_nonempty sz1)
theorem body_ord {c : Ck} (h : c.secret.ord = true) : ∀ t ∈ bodyT c, t.ord = true := by
  intro t ht
  simp only [bodyT, List.mem_cons, List.not_mem_nil, or_false] at ht
  rcases ht with rfl | rfl | rfl | rfl | rfl | rfl
  · rfl
  · rfl
  · rfl
  · refine pair_ord fun u hu => ?_
    obtain ⟨s, _, rfl⟩ := List.mem_map.1 hu
    rfl
  · exact h
  · rfl
theorem body_dp {c : Ck} (h : c.secret.dp ≤ 57) : ∀ t ∈ bodyT c, t.dp ≤ 57 := by
  intro t ht
  simp only [bodyT, List.mem_cons, List.not_mem_nil, or_false] at ht
  have d1 : ∀ s, (tData s).dp = 1 := fun s => rfl
  rcases ht with rfl | rfl | rfl | rfl | rfl | rfl
  · rw [d1]; omega
  · rw [d1]; omega
  · rw [d1]; omega
  · rw [T.dp_def]
    have : dpL (tPair (doneT c.done)).kids ≤ 1 := dpL_le fun u hu => by
      obtain ⟨s, _, rfl⟩ := List.mem_map.1 (show u ∈ doneT c.done from hu)
      rw [d1]; omega
    omega
  · exact h
  · rw [d1]; omega
theorem seal_right {key : T} {c : Ck} (hk : key.fit = true) (hs : c.secret.fit = true) : (tEnc key (tPair (bodyT c))).right = true := by
  obtain ⟨k1, k2, k3⟩ := fit_iff.1 hk
  obtain ⟨s1, s2, s3⟩ := fit_iff.1 hs
  rw [T.right_iff]
  refine ⟨enc_rshp k1 (pair_rshp (body_rshp s1)), ?_, enc_ord k2 (pair_ord (body_ord s2))⟩
  rw [T.dp_def]
  have h1 : dpL (tEnc key (tPair (bodyT c))).kids ≤ 58 := dpL_le fun u hu => by
    have hu : u ∈ [key, tPair (bodyT c)] := hu
    rcases List.mem_cons.1 hu with rfl | hu
    · omega
    · simp only [List.mem_singleton] at hu
      subst hu
      rw [T.dp_def]
      have : dpL (tPair (bodyT c)).kids ≤ 57 := dpL_le fun u hu => body_dp s3 u hu
      omega
  omega
theorem open_seal {key : T} {c : Ck} {now : Int} (hk : key.fit = true) (hs : c.secret.fit = true) (hu : inI c.upto) :
    openP key (sealT key c) now = if c.upto < now then (ckZero, 5) else (c, 0) := by
  have hse : sealT key c = tEnc key (tPair (bodyT c)) := by unfold sealT; rw [hk, hs]; rfl
  have hr := seal_right hk hs
  unfold openP
  rw [hse, hr]
  have h4 : (tEnc key (tPair (bodyT c))).kind = 4 := rfl
  rw [h4]
  simp only [decide_true, Bool.and_self, if_true]
  show (if key.same key then _ else _) = _
  rw [T.same_self, if_pos rfl]
  show (if (sealT key (readC _ _ _ _ _)).same _ then _ else _) = _
  rw [readC_body hu, hse, T.same_self, if_pos rfl]
/- with another key -/
theorem open_other {key other : T} {c : Ck} {now : Int} (hk : key.fit = true) (hs : c.secret.fit = true) (h : key.same other = false) : openP other (sealT key c) now = (ckZero, 4) := by
  have hse : sealT key c = tEnc key (tPair (bodyT c)) := by unfold sealT; rw [hk, hs]; rfl
  have hr := seal_right hk hs
  unfold openP
  rw [hse, hr]
  have h4 : (tEnc key (tPair (bodyT c))).kind = 4 := rfl
  rw [h4]
  simp only [decide_true, Bool.and_self, if_true]
  show (if key.same other then _ else _) = _
  rw [h]; rfl
end Abs

namespace Abs
open Go

def Ck.same (a b : Ck) : Bool := decide (a.client = b.client) && decide (a.nonce = b.nonce) && decide (a.upto = b.upto) && decide (a.done = b.done) && a.secret.same b.secret
theorem Ck.same_iff {a b : Ck} : a.same b = true ↔ a = b := by
  obtain ⟨a1, a2, a3, a4, a5⟩ := a
  obtain ⟨b1, b2, b3, b4, b5⟩ := b
  simp only [Ck.same, Bool.and_eq_true, decide_eq_true_eq, T.same_iff, Ck.mk.injEq]
  constructor
  · rintro ⟨⟨⟨⟨h1, h2⟩, h3⟩, h4⟩, h5⟩; exact ⟨h1, h2, h4, h5, h3⟩
  · rintro ⟨h1, h2, h4, h5, h3⟩; exact ⟨⟨⟨⟨h1, h2⟩, h3⟩, h4⟩, h5⟩
theorem Ck.same_self (a : Ck) : a.same a = true := Ck.same_iff.2 rfl
section
variable {S : AS}
set_option maxHeartbeats 1000000 in
theorem s115 {a b : Ck} (hf : a.secret.fits) (hl : a.done.length ≤ 4611686018427387904) : call 115 [.agg a.cells, .agg b.cells] S = some (.sc (.bool (a.same b)), S) := by
  rw [call_calm a115 rfl (by simp) rfl]
  have e := fun S => @s114 a.secret b.secret S hf
  unfold Ck.same
  by_cases h1 : a.client = b.client
  · by_cases h2 : a.nonce = b.nonce
    · by_cases h3 : a.upto = b.upto
      · by_cases h4 : a.done.length = b.done.length
        · have h4' : (a.done.length : Int) = b.done.length := by omega
          cases h5 : a.secret.same b.secret with
          | false => rw [h5] at e; simp [f115, f115b, e, h1, h2, h3, h4]
          | true =>
            rw [h5] at e
            simp only [f115]
            simp [-calmR_some, f115b, e, h1, h2, h3, h4]
            refine loop_gen (α := Nat) (R := fun _ r => calmR S r = some (.sc (.bool (decide (a.done = b.done))), S)) (fun i e rg S' => i ≤ a.done.length ∧ e 2 = .reg 2 0 ∧ rg 2 = some a.cells ∧ e 3 = .reg 3 0 ∧ rg 3 = some b.cells ∧ e 6 = .sc (.int .i64 (i : Nat)) ∧ a.done.take i = b.done.take i) (fun i => a.done.length - i) ?_ 0 _ _ _ ?_
            rotate_left
            · exact ⟨by omega, by simp, by simp, by simp, by simp, by simp, by simp⟩
            intro kk hkk i e rg S' ⟨hi, g2, r2, g3, r3, g6, htk⟩ ih
            by_cases hc : i < a.done.length
            · obtain ⟨s, hs⟩ := get_of_lt hc
              obtain ⟨u, hu⟩ := get_of_lt (l := b.done) (i := i) (by omega)
              have w2 : IntKind.i64.wrap ((i : Int) + 1) = ((i + 1 : Nat) : Int) := w64 (by omega)
              by_cases hsu : s = u
              · simp [-calmR_some, f115_l0, g2, r2, g3, r3, g6, hc, lstS_at hs, lstS_at hu, hsu, w2]
                refine ih (i + 1) _ _ _ (by omega) (fun _ h => h) ?_
                refine ⟨by omega, by simp [g2], by simp [r2], by simp [g3], by simp [r3], by simp, ?_⟩
                rw [List.take_add_one, List.take_add_one, hs, hu, htk, hsu]
              · have hne : ¬ a.done = b.done := by
                  intro h; rw [h, hu] at hs; cases hs; exact hsu rfl
                simp [-calmR_some, f115_l0, g2, r2, g3, r3, g6, hc, lstS_at hs, lstS_at hu, hsu]
                rw [hkk]; simp [hne]
            · have hi' : i = a.done.length := by omega
              subst hi'
              have heq : a.done = b.done := by
                rw [List.take_length, h4, List.take_length] at htk; exact htk
              simp [-calmR_some, f115_l0, g2, r2, g3, r3, g6]
              rw [hkk]; simp [heq]
        · have h4' : ¬ (a.done.length : Int) = b.done.length := by omega
          have h6 : ¬ a.done = b.done := fun h => h4 (by rw [h])
          simp [f115, f115b, e, h1, h2, h3, h4, h4', h6]
      · simp [f115, f115b, e, h1, h2, h3]
    · simp [f115, f115b, e, h1, h2]
  · simp [f115, f115b, e, h1]

/- how many, sixty-one at most -/
mutual
def T.c14 : T → Nat
  | .mk _ _ l => min (c14L l 1) 61
def c14L : List T → Nat → Nat
  | [], n => n
  | t :: l, n => if n ≤ 60 then c14L l (n + t.c14) else n
end
theorem T.c14_def : ∀ t : T, t.c14 = min (c14L t.kids 1) 61
  | .mk _ _ _ => by rw [T.c14]; rfl
theorem T.c14_le {t : T} : t.c14 ≤ 61 := by rw [T.c14_def]; omega
theorem c14L_stop {l : List T} {n : Nat} (h : 60 < n) : c14L l n = n := by
  cases l with
  | nil => rw [c14L]
  | cons t l => rw [c14L, if_neg (by omega)]
theorem count209 : ∀ (n : Nat) (t : T) (S : AS), sizeOf t < n → t.fits → call 209 [.agg t.cells] S = some (.sc (.int .i64 (t.c14 : Nat)), S)
  | 0, _, _, h, _ => by omega
  | n + 1, t, S, hn, hf => by
    obtain ⟨hl, hk⟩ := T.fits_kids hf
    have ih : ∀ u ∈ t.kids, ∀ S, call 209 [.agg u.cells] S = some (.sc (.int .i64 (u.c14 : Nat)), S) := fun u hu S => count209 n u S (by have := T.kid_lt hu; omega) (hk u hu)
    rw [call_calm a209 rfl (by simp) rfl]
    rw [T.c14_def]
    simp only [f209]
    simp [-calmR_some, f209b]
    refine loop_gen (α := Nat) (R := fun _ r => calmR S r = some (.sc (.int .i64 ((min (c14L t.kids 1) 61 : Nat) : Int)), S)) (fun i e rg S' => i ≤ t.kids.length ∧ e 1 = .reg 1 0 ∧ rg 1 = some t.cells ∧ e 4 = .sc (.int .i64 (i : Nat)) ∧ ∃ m : Nat, m ≤ 121 ∧ e 3 = .sc (.int .i64 (m : Nat)) ∧ c14L (t.kids.drop i) m = c14L t.kids 1) (fun i => t.kids.length - i) ?_ 0 _ _ _ ?_
    rotate_left
    · exact ⟨by omega, by simp, by simp, by simp, 1, by omega, by simp, rfl⟩
    intro kk hkk i e rg S' ⟨hi, g1, r1, g4, m, hm, g3, heq⟩ ihl
    by_cases hc : i < t.kids.length ∧ m ≤ 60
    · obtain ⟨hc, hm60⟩ := hc
      obtain ⟨k, hk'⟩ := get_of_lt hc
      have w2 : IntKind.i64.wrap ((i : Int) + 1) = ((i + 1 : Nat) : Int) := w64 (by omega)
      have e209 := ih k (List.mem_of_getElem? hk')
      have hk61 := @T.c14_le k
      have w3 : IntKind.i64.wrap ((m : Int) + (k.c14 : Int)) = ((m + k.c14 : Nat) : Int) := w64 (by omega)
      have hm60' : (m : Int) ≤ 60 := by omega
      have hdrop : t.kids.drop i = k :: t.kids.drop (i + 1) := by
        obtain ⟨hlt', rfl⟩ := List.getElem?_eq_some_iff.1 hk'
        exact List.drop_eq_getElem_cons hlt'
      simp [-calmR_some, f209_l0, g1, r1, g3, g4, hc, hm60', hm60, lstT_at hk', e209, w2, w3]
      refine ihl (i + 1) _ _ _ (by omega) (fun _ h => h) ?_
      refine ⟨by omega, by simp [g1], by simp [r1], by simp, m + k.c14, by omega, by simp, ?_⟩
      rw [← heq, hdrop, c14L, if_pos hm60]
    · have hend : c14L t.kids 1 = m := by
        rw [← heq]
        by_cases h60 : m ≤ 60
        · have : t.kids.length ≤ i := by omega
          rw [List.drop_eq_nil_of_le this, c14L]
        · exact c14L_stop (by omega)
      by_cases hc1 : i < t.kids.length
      · have hm60' : ¬ (m : Int) ≤ 60 := by omega
        have hm60 : ¬ m ≤ 60 := by omega
        simp [-calmR_some, f209_l0, g1, r1, g3, g4, hc1, hm60', hm60]
        rw [hkk, hend]; simp [g3]
        try omega
      · simp [-calmR_some, f209_l0, g1, r1, g3, g4, hc1]
        rw [hkk, hend]; simp [g3]
        try omega
def T.small (t : T) : Bool := decide (t.c14 ≤ 60)
@[simp] theorem s108 {t : T} (h : t.fits) : call 108 [.agg t.cells] S = some (.sc (.bool t.small), S) := by
  rw [call_calm a108 rfl (by simp) rfl]
  have e := fun S => count209 _ t S (Nat.lt_succ_self _) h
  have : decide ((t.c14 : Int) ≤ 60) = t.small := by unfold T.small; simp; omega
  simp [f108, f108b, e, T.small]
  try omega
end
end Abs

namespace Abs
open Go

theorem call_nrm {S : AS} {k : Nat} {f : AFunc} {args args' : List AV} (h : Calm k f) (hr : args.any AV.isReg = false) (hr' : args'.any AV.isReg = false) (hz : nrmL args = args') (hz' : nrmL args' = args') (hl : Nat.ble args'.length f.ntmps = true) :
    call k args S = call k args' S := by
  rw [call_calm' h hr hz hl, call_calm h hr' hz' hl]
def atomK : T := tAtom ⟨#[107]⟩
def ck0 : Ck := ⟨⟨#[97]⟩, ⟨#[49]⟩, [], tAtom ⟨#[120]⟩, 9⟩
theorem atom_fit {s : ByteArray} (h : s ≠ ⟨#[]⟩) : (tAtom s).fit = true := by
  rw [fit_iff]
  refine ⟨?_, rfl, by show 1 ≤ 57; omega⟩
  unfold tAtom
  rw [T.rshp]
  simp [T.one, knd, nmd, kdn, T.kind, T.name, T.kids, rshpL, h]
theorem atom_fits {s : ByteArray} : (tAtom s).fits := ⟨by simp, trivial⟩
theorem atom_ofit {s : ByteArray} : (tAtom s).ofit := (T.ofit_def _).2 ⟨fun h => absurd h (by show ¬ ((2 : Int) = 9); decide), fun u hu => by cases hu⟩
theorem data_ofit {s : ByteArray} : (tData s).ofit := (T.ofit_def _).2 ⟨fun h => absurd h (by show ¬ ((1 : Int) = 9); decide), fun u hu => by cases hu⟩
theorem ck0_ok : ck0.ok where
  client := by decide
  nonce := by decide
  done := by show 0 * 48 ≤ _; omega
  names := fun s hs => by cases hs
  upto := by unfold inI; decide
  fits := atom_fits
  ofit := atom_ofit
theorem bd_iff {r : Nat} {t : T} : t.bd r ↔ t.name.size ≤ r ∧ t.kids.length * 48 ≤ r ∧ ∀ u ∈ t.kids, u.bd r := by
  obtain ⟨k, n, l⟩ := t
  rw [T.bd, bdL_iff]; rfl
theorem data_bd {r : Nat} {s : ByteArray} (h : s.size ≤ r) : (tData s).bd r := ⟨h, by show 0 * 48 ≤ _; omega, trivial⟩
theorem atom_bd {r : Nat} {s : ByteArray} (h : s.size ≤ r) : (tAtom s).bd r := ⟨h, by show 0 * 48 ≤ _; omega, trivial⟩
structure Ck.bd (c : Ck) : Prop where
  client : c.client.size + 1 ≤ 140737488355328
  nonce : c.nonce.size + 1 ≤ 140737488355328
  done : c.done.length * 48 ≤ 140737488355328
  names : ∀ s ∈ c.done, s.size + 1 ≤ 140737488355328
  upto : inI c.upto
  secret : c.secret.bd 140737488355328
  ofit : c.secret.ofit
theorem Ck.bd.ok {c : Ck} (h : c.bd) : c.ok where
  client := by have := h.client; omega
  nonce := by have := h.nonce; omega
  done := h.done
  names := fun s hs => by have := h.names s hs; omega
  upto := h.upto
  fits := T.fits_bd (by omega) h.secret
  ofit := h.ofit
theorem seal_bd {key : T} {c : Ck} (hk : key.bd 140737488355328) (hc : c.bd) : (sealT key c).bd 140737488355328 := by
  have one : ∀ {b : UInt8}, (⟨#[b]⟩ : ByteArray).size = 1 := rfl
  have n0 : (⟨#[]⟩ : ByteArray).size = 0 := rfl
  have hit := itoaB_le (n := c.upto) hc.upto.1 hc.upto.2
  unfold sealT
  split
  · rw [tEnc, bd_iff]
    refine ⟨by show (⟨#[]⟩ : ByteArray).size ≤ _; omega, by show 2 * 48 ≤ _; omega, fun u hu => ?_⟩
    have hu : u ∈ [key, tPair (bodyT c)] := hu
    simp only [List.mem_cons, List.not_mem_nil, or_false] at hu
    rcases hu with rfl | rfl
    · exact hk
    · rw [tPair, bd_iff]
      refine ⟨by show (⟨#[]⟩ : ByteArray).size ≤ _; omega, by show 6 * 48 ≤ _; omega, fun t ht => ?_⟩
      have ht : t ∈ bodyT c := ht
      simp only [bodyT, List.mem_cons, List.not_mem_nil, or_false] at ht
      rcases ht with rfl | rfl | rfl | rfl | rfl | rfl
      · exact data_bd (by show 6 ≤ _; omega)
      · exact data_bd (by rw [ByteArray.size_append, one]; have := hc.client; omega)
      · exact data_bd (by rw [ByteArray.size_append, one]; have := hc.nonce; omega)
      · rw [tPair, bd_iff]
        refine ⟨by show (⟨#[]⟩ : ByteArray).size ≤ _; omega, by show (doneT c.done).length * 48 ≤ _; rw [doneT_len]; exact hc.done, fun u hu => ?_⟩
        obtain ⟨s, hs, rfl⟩ := List.mem_map.1 (show u ∈ doneT c.done from hu)
        exact data_bd (by rw [ByteArray.size_append, one]; have := hc.names s hs; omega)
      · exact hc.secret
      · exact data_bd (by rw [ByteArray.size_append, one]; omega)
  · exact ⟨by show (⟨#[]⟩ : ByteArray).size ≤ _; omega, by show 0 * 48 ≤ _; omega, trivial⟩
theorem seal_ofit {key : T} {c : Ck} (hk : key.ofit) (hc : c.secret.ofit) : (sealT key c).ofit := by
  unfold sealT
  split
  · rw [T.ofit_def]
    refine ⟨fun h => absurd h (by show ¬ ((4 : Int) = 9); decide), fun u hu => ?_⟩
    have hu : u ∈ [key, tPair (bodyT c)] := hu
    simp only [List.mem_cons, List.not_mem_nil, or_false] at hu
    rcases hu with rfl | rfl
    · exact hk
    · rw [T.ofit_def]
      refine ⟨fun h => absurd h (by show ¬ ((3 : Int) = 9); decide), fun t ht => ?_⟩
      have ht : t ∈ bodyT c := ht
      simp only [bodyT, List.mem_cons, List.not_mem_nil, or_false] at ht
      rcases ht with rfl | rfl | rfl | rfl | rfl | rfl
      · exact data_ofit
      · exact data_ofit
      · exact data_ofit
      · rw [T.ofit_def]
        refine ⟨fun h => absurd h (by show ¬ ((3 : Int) = 9); decide), fun u hu => ?_⟩
        obtain ⟨s, hs, rfl⟩ := List.mem_map.1 (show u ∈ doneT c.done from hu)
        exact data_ofit
      · exact hc
      · exact data_ofit
  · exact (T.ofit_def _).2 ⟨fun h => absurd h (by show ¬ ((0 : Int) = 9); decide), fun u hu => by cases hu⟩
theorem ck0_bd : ck0.bd where
  client := by show 1 + 1 ≤ _; omega
  nonce := by show 1 + 1 ≤ _; omega
  done := by show 0 * 48 ≤ _; omega
  names := fun s hs => by cases hs
  upto := by unfold inI; decide
  secret := atom_bd (by show 1 ≤ _; omega)
  ofit := atom_ofit
section
variable {S : AS}
theorem q109 {key : T} {c : Ck} {x : AV} (hx : IsSs S x c.done) (hk : key.bd 140737488355328) (ho : key.ofit) (hc : c.bd) : call 109 [.agg key.cells, .agg (ckX c x)] S = some (.agg (sealT key c).cells, S) :=
  p109 hx (T.fits_bd (by omega) hk) ho hc.ok
theorem r109 {key : T} {c : Ck} (hk : key.bd 140737488355328) (ho : key.ofit) (hc : c.bd) : call 109 [.agg key.cells, .agg c.cells] S = some (.agg (sealT key c).cells, S) := q109 isSs_S hk ho hc
theorem r112 {key t : T} {now : Int} (hk : key.bd 140737488355328) (ho : key.ofit) (ht : t.bd 140737488355328) (hto : t.ofit) :
    call 112 [.agg key.cells, .agg t.cells, .sc (.int .i64 now)] S = some (.tup [.agg (openP key t now).1.cells, .sc (.int .i64 (openP key t now).2)], S) := p112 (T.fits_bd (by omega) hk) ho ht hto
theorem sealT_fit {key : T} {c : Ck} (hk : key.fit = true) (hs : c.secret.fit = true) : sealT key c = tEnc key (tPair (bodyT c)) := by
  unfold sealT; rw [hk, hs]; rfl
theorem atomK_fit : atomK.fit = true := atom_fit (by decide)
theorem ck0_fit : ck0.secret.fit = true := atom_fit (by decide)
theorem mk_bulk {k : Int} {n : ByteArray} {l : List T} : (T.mk k n l).bulk = n.size + bulkL l + 4 := by rw [T.bulk]; omega
theorem bulkL_nil : bulkL [] = 0 := by rw [bulkL]
theorem bulkL_cons {t : T} {l : List T} : bulkL (t :: l) = t.bulk + bulkL l := by rw [bulkL]
theorem n0 : (⟨#[]⟩ : ByteArray).size = 0 := rfl
theorem data_bulk {s : ByteArray} : (tData s).bulk = s.size + 4 := by unfold tData; rw [mk_bulk, bulkL_nil]
theorem atom_bulk {s : ByteArray} : (tAtom s).bulk = s.size + 4 := by unfold tAtom; rw [mk_bulk, bulkL_nil]
theorem pair_bulk {l : List T} : (tPair l).bulk = bulkL l + 4 := by unfold tPair; rw [mk_bulk, n0]; omega
theorem enc_bulk {a b : T} : (tEnc a b).bulk = a.bulk + b.bulk + 4 := by unfold tEnc; rw [mk_bulk, n0, bulkL_cons, bulkL_cons, bulkL_nil]; omega
def doneB : List ByteArray → Nat
  | [] => 0
  | s :: l => s.size + 5 + doneB l
theorem doneT_bulk : ∀ {l : List ByteArray}, bulkL (doneT l) = doneB l
  | [] => bulkL_nil
  | s :: l => by
    have e : doneT (s :: l) = tData (⟨#[100]⟩ ++ s) :: doneT l := rfl
    rw [e, bulkL_cons, data_bulk, doneT_bulk, ByteArray.size_append, doneB]
    have : (⟨#[100]⟩ : ByteArray).size = 1 := rfl
    omega
theorem body_bulk {c : Ck} (h : inI c.upto) : bulkL (bodyT c) ≤ c.client.size + c.nonce.size + doneB c.done + c.secret.bulk + 100 := by
  have h9 := itoaB_le h.1 h.2
  have n6 : (⟨#[99, 111, 111, 107, 105, 101]⟩ : ByteArray).size = 6 := rfl
  have e1 : (⟨#[99]⟩ : ByteArray).size = 1 := rfl
  have e2 : (⟨#[110]⟩ : ByteArray).size = 1 := rfl
  have e3 : (⟨#[117]⟩ : ByteArray).size = 1 := rfl
  unfold bodyT
  rw [bulkL_cons, bulkL_cons, bulkL_cons, bulkL_cons, bulkL_cons, bulkL_cons, bulkL_nil, data_bulk, data_bulk, data_bulk, data_bulk, pair_bulk, doneT_bulk, ByteArray.size_append, ByteArray.size_append, ByteArray.size_append]
  omega
theorem seal_bulk {key : T} {c : Ck} (h : inI c.upto) : (sealT key c).bulk ≤ key.bulk + c.client.size + c.nonce.size + doneB c.done + c.secret.bulk + 200 := by
  unfold sealT
  split
  · have := body_bulk h
    rw [enc_bulk, pair_bulk]; omega
  · unfold tZero; rw [mk_bulk, n0, bulkL_nil]; omega
theorem seal0_bulk : (sealT atomK ck0).bulk ≤ 1099511627776 := by
  have h := seal_bulk (key := atomK) (c := ck0) ck0_bd.upto
  have e1 : atomK.bulk = 5 := atom_bulk
  have e2 : ck0.secret.bulk = 5 := atom_bulk
  have e3 : ck0.client.size = 1 := rfl
  have e4 : ck0.nonce.size = 1 := rfl
  have e5 : doneB ck0.done = 0 := rfl
  omega
theorem text0 : (tEnc atomK (tPair (bodyT ck0))).text = ⟨#[101, 40, 97, 49, 58, 107, 44, 112, 40, 100, 54, 58, 99, 111, 111, 107, 105, 101, 44, 100, 50, 58, 99, 97, 44, 100, 50, 58, 110, 49, 44, 112, 40, 41, 44, 97, 49, 58, 120, 44, 100, 50, 58, 117, 57, 41, 41]⟩ := by
  have n9 : itoaB 9 = digB 9 := by rw [show (9 : Int) = ((9 : Nat) : Int) from rfl, itoaB_nat, numB_one (by omega)]
  have m1 : numB 1 = digB 1 := numB_one (by omega)
  have m2 : numB 2 = digB 2 := numB_one (by omega)
  have m6 : numB 6 = digB 6 := numB_one (by omega)
  have a1 : nameT ⟨#[107]⟩ = ⟨#[49, 58, 107]⟩ := by unfold nameT; rw [if_neg (by decide), show (⟨#[107]⟩ : ByteArray).size = 1 from rfl, m1]; rfl
  have a2 : nameT ⟨#[120]⟩ = ⟨#[49, 58, 120]⟩ := by unfold nameT; rw [if_neg (by decide), show (⟨#[120]⟩ : ByteArray).size = 1 from rfl, m1]; rfl
  have a3 : nameT ⟨#[99, 111, 111, 107, 105, 101]⟩ = ⟨#[54, 58, 99, 111, 111, 107, 105, 101]⟩ := by unfold nameT; rw [if_neg (by decide), show (⟨#[99, 111, 111, 107, 105, 101]⟩ : ByteArray).size = 6 from rfl, m6]; rfl
  have b1 : (⟨#[99]⟩ : ByteArray) ++ ck0.client = ⟨#[99, 97]⟩ := rfl
  have b2 : (⟨#[110]⟩ : ByteArray) ++ ck0.nonce = ⟨#[110, 49]⟩ := rfl
  have b3 : (⟨#[117]⟩ : ByteArray) ++ itoaB ck0.upto = ⟨#[117, 57]⟩ := by show _ ++ itoaB 9 = _; rw [n9]; rfl
  have a4 : nameT ⟨#[99, 97]⟩ = ⟨#[50, 58, 99, 97]⟩ := by unfold nameT; rw [if_neg (by decide), show (⟨#[99, 97]⟩ : ByteArray).size = 2 from rfl, m2]; rfl
  have a5 : nameT ⟨#[110, 49]⟩ = ⟨#[50, 58, 110, 49]⟩ := by unfold nameT; rw [if_neg (by decide), show (⟨#[110, 49]⟩ : ByteArray).size = 2 from rfl, m2]; rfl
  have a6 : nameT ⟨#[117, 57]⟩ = ⟨#[50, 58, 117, 57]⟩ := by unfold nameT; rw [if_neg (by decide), show (⟨#[117, 57]⟩ : ByteArray).size = 2 from rfl, m2]; rfl
  have a0 : nameT ⟨#[]⟩ = ⟨#[]⟩ := rfl
  unfold bodyT
  rw [b1, b2, b3]
  unfold atomK
  simp only [tEnc, tPair, tData, tAtom, doneT, ck0, List.map_nil, T.text, joinT, commaT, hdT, a0, a1, a2, a3, a4, a5, a6, List.isEmpty_cons, List.isEmpty_nil]
  rfl
theorem seal0_txt : (sealT atomK ck0).txt = ⟨#[101, 40, 97, 49, 58, 107, 44, 112, 40, 100, 54, 58, 99, 111, 111, 107, 105, 101, 44, 100, 50, 58, 99, 97, 44, 100, 50, 58, 110, 49, 44, 112, 40, 41, 44, 97, 49, 58, 120, 44, 100, 50, 58, 117, 57, 41, 41]⟩ := by
  have hr := T.right_iff.1 (seal_right atomK_fit ck0_fit)
  rw [sealT_fit atomK_fit ck0_fit]
  unfold T.txt
  rw [if_pos (by rw [hr.1]; simp [hr.2.1]), text0]
set_option maxHeartbeats 4000000 in
set_option maxRecDepth 100000 in
theorem s107 : call 107 [] S = some (.sc (.bool true), S) := by
  rw [call_calm a107 rfl (by simp) rfl]
  have kbd : atomK.bd 140737488355328 := atom_bd (by show 1 ≤ _; omega)
  have jbd : (tAtom ⟨#[106]⟩).bd 140737488355328 := atom_bd (by show 1 ≤ _; omega)
  have tbd := seal_bd kbd ck0_bd
  have tof := seal_ofit (key := atomK) (c := ck0) atom_ofit atom_ofit
  have e109 : ∀ S, call 109 [.agg (tAtom ⟨#[107]⟩).cells, .agg (ckX ck0 (.lst 0 true []))] S = some (.agg (sealT atomK ck0).cells, S) := fun S => q109 (key := atomK) isSs_nil kbd atom_ofit ck0_bd
  have p1 : ∀ S, call 112 [.agg (tAtom ⟨#[107]⟩).cells, .agg (sealT atomK ck0).cells, .i 9] S = some (.tup [.agg ck0.cells, .i 0], S) := fun S => by
    rw [show (tAtom ⟨#[107]⟩) = atomK from rfl, r112 kbd atom_ofit tbd tof, open_seal atomK_fit ck0_fit ck0_bd.upto]; rfl
  have p2 : ∀ S, call 112 [.agg (tAtom ⟨#[107]⟩).cells, .agg (sealT atomK ck0).cells, .i 10] S = some (.tup [.agg ckZero.cells, .i 5], S) := fun S => by
    rw [show (tAtom ⟨#[107]⟩) = atomK from rfl, r112 kbd atom_ofit tbd tof, open_seal atomK_fit ck0_fit ck0_bd.upto]; rfl
  have p3 : ∀ S, call 112 [.agg (tAtom ⟨#[106]⟩).cells, .agg (sealT atomK ck0).cells, .i 1] S = some (.tup [.agg ckZero.cells, .i 4], S) := fun S => by
    rw [r112 jbd atom_ofit tbd tof, open_other atomK_fit ck0_fit (by rfl)]
  have p4 : ∀ S, call 112 [.agg (tAtom ⟨#[107]⟩).cells, .agg (tAtom ⟨#[107]⟩).cells, .i 1] S = some (.tup [.agg ckZero.cells, .i 2], S) := fun S => by
    rw [show (tAtom ⟨#[107]⟩) = atomK from rfl, r112 kbd atom_ofit kbd atom_ofit]
    unfold openP
    rw [if_neg (by rw [show decide (atomK.kind = 4) = false from rfl]; simp)]
  have e121 : ∀ S, call 121 [.agg (sealT atomK ck0).cells] S = some (.sc (.string _), S) := fun S => by rw [s121 seal0_bulk, seal0_txt]
  have e115 : ∀ S, call 115 [.agg (ckX ck0 (.lst 0 true [])), .agg ck0.cells] S = some (.sc (.bool true), S) := fun S => by
    rw [call_nrm a115 (args' := [.agg ck0.cells, .agg ck0.cells]) rfl rfl (by simp; rfl) (by simp) rfl, s115 atom_fits (by show 0 ≤ _; omega), Ck.same_self]
  have hd4 : List.drop 4 ((tAtom ⟨#[120]⟩).cells ++ [AV.i 0]) = [] := by rw [cells_T]; rfl
  have hck : AV.s ⟨#[97]⟩ :: AV.s ⟨#[49]⟩ :: AV.lst 0 true [] :: ((tAtom ⟨#[120]⟩).cells ++ [AV.i 9]) = ckX ck0 (.lst 0 true []) := by rw [cells_T]; rfl
  have hc7 : (ckX ck0 (.lst 0 true [])).take 7 = ckX ck0 (.lst 0 true []) := rfl
  have hall : (ckX ck0 (.lst 0 true [])).all AV.isCell = true := ckX_cell _ _ rfl
  simp [f107, f107b, s122, hd4, hck, hc7, hall, e109, p1, p2, p3, p4, e121, e115]
end
end Abs
