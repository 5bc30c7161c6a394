/- Cookies, and their seal. -/
import Derived.Test.YtpmgdaoofalpnaaGreatDoorSq
import Derived.Test.YtpmgdaoofalpnaaGreatDoorSp
set_option linter.unusedVariables false
set_option linter.unusedSimpArgs false
set_option linter.unusedSectionVars false
namespace Abs
open Go

structure Ck where
  client : ByteArray
  nonce : ByteArray
  done : List ByteArray
  secret : T
  upto : Int
def Ck.cells (c : Ck) : List AV := [.sc (.string c.client), .sc (.string c.nonce), lstS c.done, .sc (.int .i64 c.secret.kind), .sc (.string c.secret.name), lstT c.secret.kids, .sc (.int .i64 c.upto)]
def tZero : T := .mk 0 ⟨#[]⟩ []
def ckZero : Ck := ⟨⟨#[]⟩, ⟨#[]⟩, [], tZero, 0⟩
abbrev zC : List AV := [.s ⟨#[]⟩, .s ⟨#[]⟩, .lst 0 true [], .i 0, .s ⟨#[]⟩, .lst 0 true [], .i 0]
section
variable (c : Ck)
@[simp] theorem Ck.len_cells : c.cells.length = 7 := rfl
@[simp] theorem Ck.cell_cells : c.cells.all AV.isCell = true := rfl
@[simp] theorem Ck.get0 : getCells c.cells 0 1 false = some (.sc (.string c.client)) := rfl
@[simp] theorem Ck.get1 : getCells c.cells 1 1 false = some (.sc (.string c.nonce)) := rfl
@[simp] theorem Ck.get2 : getCells c.cells 2 1 false = some (lstS c.done) := rfl
@[simp] theorem Ck.get3 : getCells c.cells 3 3 true = some (.agg c.secret.cells) := by rw [cells_T]; rfl
@[simp] theorem Ck.get6 : getCells c.cells 6 1 false = some (.sc (.int .i64 c.upto)) := rfl
@[simp] theorem Ck.get7 : getCells c.cells 0 7 true = some (.agg c.cells) := rfl
@[simp] theorem Ck.dt0 : c.cells.take 1 = [.sc (.string c.client)] := rfl
@[simp] theorem Ck.dt1 : (c.cells.drop 1).take 1 = [.sc (.string c.nonce)] := rfl
@[simp] theorem Ck.dt1' : c.cells.tail.take 1 = [.sc (.string c.nonce)] := rfl
@[simp] theorem Ck.dt2 : (c.cells.drop 2).take 1 = [lstS c.done] := rfl
@[simp] theorem Ck.dt3 : (c.cells.drop 3).take 3 = c.secret.cells := by rw [cells_T]; rfl
@[simp] theorem Ck.dt6 : (c.cells.drop 6).take 1 = [.sc (.int .i64 c.upto)] := rfl
@[simp] theorem Ck.nrm_cells : nrmL c.cells = c.cells := by
  unfold Ck.cells
  simp only [nrmL, AV.nrm]
  rw [show (lstS c.done).nrm = lstS c.done from lstS_nrm _, lstT_nrm]
@[simp] theorem Ck.tk7 : c.cells.take 7 = c.cells := rfl
@[simp] theorem Ck.frz_cells (S : AS) (b d : Nat) : mapO (S.frzTo b (d + 1)) c.cells = some c.cells := by
  unfold Ck.cells lstS lstT
  simp
@[simp] theorem Ck.pure_cells : pureL c.cells = true := by
  unfold Ck.cells
  simp [pureL, AV.pure]
end
theorem calm_Ck {S S' : AS} {c : Ck} : calmR S (some (.agg c.cells, S')) = some (.agg c.cells, S) := by
  simp [AV.pure]

/- a cookie's few mechanisms -/
def Ck.few (c : Ck) : Ck := { c with done := c.done.take 20 }
theorem setC2 {c : Ck} {v : AV} : setCells c.cells 2 [v] = [.sc (.string c.client), .sc (.string c.nonce), v, .sc (.int .i64 c.secret.kind), .sc (.string c.secret.name), lstT c.secret.kids, .sc (.int .i64 c.upto)] := rfl
theorem setC2' {c : Ck} {v : AV} : List.take 2 c.cells ++ v :: List.drop 3 c.cells = [.sc (.string c.client), .sc (.string c.nonce), v, .sc (.int .i64 c.secret.kind), .sc (.string c.secret.name), lstT c.secret.kids, .sc (.int .i64 c.upto)] := rfl
theorem calm_few {S S' : AS} {c : Ck} {v : AV} {ds : List ByteArray} (h : S'.frzTo S.n 2 v = some (lstS ds)) :
    calmR S (some (.agg [.sc (.string c.client), .sc (.string c.nonce), v, .sc (.int .i64 c.secret.kind), .sc (.string c.secret.name), lstT c.secret.kids, .sc (.int .i64 c.upto)], S')) = some (.agg ({ c with done := ds } : Ck).cells, S) := by
  have h2 : S'.frzTo S.n 2 (.agg [.sc (.string c.client), .sc (.string c.nonce), v, .sc (.int .i64 c.secret.kind), .sc (.string c.secret.name), lstT c.secret.kids, .sc (.int .i64 c.upto)]) = some (.agg ({ c with done := ds } : Ck).cells) := by
    simp [h, Ck.cells]
  rw [calmR_some, h2]
  simp [AV.pure]
section
variable {S : AS}
/- the seal -/
def dB (l : Nat) (s : ByteArray) : ByteArray := ⟨#[UInt8.ofNat l]⟩ ++ s
def doneT (l : List ByteArray) : List T := l.map fun s => tData (⟨#[100]⟩ ++ s)
def bodyT (c : Ck) : List T := [tData ⟨#[99, 111, 111, 107, 105, 101]⟩, tData (⟨#[99]⟩ ++ c.client), tData (⟨#[110]⟩ ++ c.nonce), tPair (doneT c.done), c.secret, tData (⟨#[117]⟩ ++ itoaB c.upto)]
def sealT (key : T) (c : Ck) : T := if key.fit && c.secret.fit then tEnc key (tPair (bodyT c)) else tZero
structure Ck.ok (c : Ck) : Prop where
  client : c.client.size ≤ 4611686018427387904
  nonce : c.nonce.size ≤ 4611686018427387904
  done : c.done.length * 48 ≤ 140737488355328
  names : ∀ s ∈ c.done, s.size ≤ 4611686018427387904
  upto : inI c.upto
  fits : c.secret.fits
  ofit : c.secret.ofit
theorem doneT_len {l : List ByteArray} : (doneT l).length = l.length := by simp [doneT]
theorem doneT_take {l : List ByteArray} {i : Nat} {s : ByteArray} (h : l[i]? = some s) : (doneT (l.take (i + 1))).map T.cells = (doneT (l.take i)).map T.cells ++ [(tData (⟨#[100]⟩ ++ s)).cells] := by
  rw [List.take_add_one, h]; simp [doneT]
theorem isTs6 {S : AS} {f : Bool} {a b c d e g : T} : IsTs S (.lst 3 f [a.cells, b.cells, c.cells, d.cells, e.cells, g.cells]) [a, b, c, d, e, g] := isTs_lst (l := [a, b, c, d, e, g])
end
end Abs

namespace Abs
open Go

structure IsSs (S : AS) (x : AV) (l : List ByteArray) : Prop where
  reg : x.isReg = false
  len : pev .lenL [x.nrm] = some (.sc (.int .i64 l.length))
  nn : x.nrm.nrm = x.nrm
  rows : ∀ S' : AS, (∀ id, id < S.n → S'.heap id = S.heap id) → rowsOf 1 S' x.nrm = some (sRow l)
section
variable {S : AS}
theorem IsSs.nrm {x : AV} {l : List ByteArray} (h : IsSs S x l) : IsSs S x.nrm l :=
  ⟨by rw [nrm_isReg]; exact h.reg, by rw [h.nn]; exact h.len, by rw [h.nn, h.nn], fun S' h2 => by rw [h.nn]; exact h.rows S' h2⟩
theorem IsSs.cell {y : AV} {l : List ByteArray} (h : IsSs S y l) (hn : y.nrm = y) : y.isCell = true := by
  have := h.rows S fun _ _ => rfl
  rw [hn] at this
  cases y <;> first | rfl | (simp [rowsOf] at this)
theorem isSs_S {l : List ByteArray} : IsSs S (lstS l) l := ⟨rfl, by simp, by simp, fun S' _ => by rw [lstS_nrm]; exact lstS_rows S' l⟩
theorem isSs_arr {id off n : Nat} {lim : Option Nat} {l : List ByteArray} (h : S.slice 0 id 1 off n = some (sRow l)) (hid : id < S.n) (hn : n = l.length) : IsSs S (.arr id 1 off n lim) l := by
  refine ⟨rfl, by subst hn; rfl, rfl, fun S' h2 => ?_⟩
  show rowsOf 1 S' (.arr id 1 off n lim) = _
  simp only [rowsOf, if_true]
  unfold AS.slice at h ⊢
  rw [h2 id hid]; exact h
theorem isSs_nil {z : Nat} {f : Bool} : IsSs S (.lst z f []) [] := by
  refine ⟨rfl, by simp [AV.nrm, nrmR, lstN], by simp [AV.nrm, nrmR, lstN], fun S' _ => by simp [AV.nrm, nrmR, rowsOf, sRow, lstN]⟩
theorem IsSs.at {x : AV} {l : List ByteArray} (h : IsSs S x l) {i : Nat} {t : ByteArray} (ht : l[i]? = some t) : ∃ p, pev (.iaddr 1) [x.nrm, .sc (.int .i64 (i : Int))] = some p ∧ p.isReg = false ∧
    ∀ S' : AS, (∀ id, id < S.n → S'.heap id = S.heap id) → ∀ d rg, opev (.ld none 1 false) d rg S' [p] = some (.sc (.string t), none, S') := by
  have hlen : i < l.length := (List.getElem?_eq_some_iff.1 ht).1
  have hr := h.rows
  have hl := h.len
  generalize x.nrm = y at hr hl ⊢
  have h0 := hr S fun _ _ => rfl
  cases y with
  | lst z f xs =>
    simp only [rowsOf] at h0
    split at h0
    · rename_i hz
      cases h0
      have hne : (sRow l).isEmpty = false := by cases l with
        | nil => simp at hlen
        | cons _ _ => rfl
      rw [hne] at hz
      have hz : z = 1 := by simpa using hz
      subst hz
      exact ⟨.iptr [.sc (.string t)], by simp [pev, sRow, ht], rfl, fun S' _ d rg => by simp⟩
    · cases h0
  | arr id z off n lim =>
    simp only [rowsOf] at h0
    split at h0
    · rename_i hz
      subst hz
      have hn : n = l.length := by
        have hl : (n : Int) = (l.length : Int) := by simpa using hl
        omega
      refine ⟨.ptr id (off + i) 0, by simp [pev]; omega, rfl, fun S' h2 d rg => ?_⟩
      have h1 := hr S' h2
      simp only [rowsOf, if_true] at h1
      unfold AS.slice at h1
      simp only [Nat.zero_le, if_true] at h1
      split at h1
      · rename_i z' rs hh
        split at h1
        · rename_i hc
          simp only [Option.some.injEq] at h1
          have : ((rs.drop off).take n)[i]? = some [.sc (.string t)] := by rw [h1]; simp [sRow, ht]
          rw [List.getElem?_take, if_pos (by omega), List.getElem?_drop] at this
          rw [opev_ld_ptr hh, this]; simp
        · cases h1
      · cases h1
    · cases h0
  | _ => simp [rowsOf] at h0

/- a cookie whose list lies somewhere -/
def ckX (c : Ck) (x : AV) : List AV := [.sc (.string c.client), .sc (.string c.nonce), x, .sc (.int .i64 c.secret.kind), .sc (.string c.secret.name), lstT c.secret.kids, .sc (.int .i64 c.upto)]
theorem ckX_cells {c : Ck} : ckX c (lstS c.done) = c.cells := rfl
section
variable (c : Ck) (x : AV)
@[simp] theorem ckX_len : (ckX c x).length = 7 := rfl
theorem ckX_cell (h : x.isCell = true) : (ckX c x).all AV.isCell = true := by simp [ckX, h]
@[simp] theorem ckX_t0 : (ckX c x).take 1 = [.sc (.string c.client)] := rfl
@[simp] theorem ckX_t1 : ((ckX c x).drop 1).take 1 = [.sc (.string c.nonce)] := rfl
@[simp] theorem ckX_t1' : (ckX c x).tail.take 1 = [.sc (.string c.nonce)] := rfl
@[simp] theorem ckX_t2 : ((ckX c x).drop 2).take 1 = [x] := rfl
@[simp] theorem ckX_t3 : ((ckX c x).drop 3).take 3 = c.secret.cells := by rw [cells_T]; rfl
@[simp] theorem ckX_t6 : ((ckX c x).drop 6).take 1 = [.sc (.int .i64 c.upto)] := rfl
@[simp] theorem ckX_nrm : nrmL (ckX c x) = ckX c x.nrm := by simp [ckX, lstT_nrm]
end
end
end Abs

namespace Abs
open Go

def ckY (cl no : ByteArray) (x s0 s1 s2 : AV) (u : Int) : List AV := [.sc (.string cl), .sc (.string no), x, s0, s1, s2, .sc (.int .i64 u)]
def cutD (s l : ByteArray) : ByteArray := (cutB s l).getD s
section
variable {S : AS}
/- what Atoi tells -/
def atoN (s : ByteArray) : Int := match Lib.atoiAll s.data.toList with | .ok v => v | .range => Lib.atoiSat s.data.toList | _ => 0
/- an append leaves alone what is not its own -/
theorem append_frame {sz bytes : Nat} {S : AS} {s v : AV} {ys : List (List AV)} {S' : AS} (h : appendA sz bytes S s ys = some (v, S')) {j : Nat} (hj : j < S.n) (hs : ∀ a b c d, s ≠ .arr j a b c d) : S'.heap j = S.heap j ∧ S.n ≤ S'.n ∧ S'.ro = S.ro := by
  have new : ∀ (o : AObj), (S.new o).heap j = S.heap j := fun o => if_neg (by omega)
  unfold appendA at h
  split at h
  · split at h
    · cases h; exact ⟨new _, Nat.le_succ _, rfl⟩
    · cases h; exact ⟨rfl, Nat.le_refl _, rfl⟩
    · cases h; exact ⟨rfl, Nat.le_refl _, rfl⟩
    · cases h
  · split at h
    · split at h
      · cases h; exact ⟨new _, Nat.le_succ _, rfl⟩
      · cases h
    · rename_i id a b c d
      have hne : j ≠ id := by rintro rfl; exact hs _ _ _ _ rfl
      have set : ∀ (o : Option AObj), (S.set id o).heap j = S.heap j := fun o => if_neg hne
      split at h
      · split at h
        · cases h
        · split at h
          · split at h
            · cases h; exact ⟨set _, Nat.le_refl _, rfl⟩
            · split at h
              · cases h; exact ⟨new _, Nat.le_succ _, rfl⟩
              · cases h
          · split at h
            · cases h; exact ⟨set _, Nat.le_refl _, rfl⟩
            · split at h
              · cases h
                refine ⟨?_, Nat.le_succ _, rfl⟩
                show (if j = S.n then _ else (S.set id none).heap j) = _
                rw [if_neg (by omega)]; exact set _
              · cases h
      · cases h
    · cases h
theorem Own.set {S0 S' : AS} {sz : Nat} {v : AV} {rs : List (List AV)} {id : Nat} {o : Option AObj} (h : Own S0 S' sz v rs) (hid : S0.n ≤ id) (hv : ∀ a b c d, v ≠ .arr id a b c d) : Own S0 (S'.set id o) sz v rs := by
  refine ⟨old_set h.old hid, h.ro, ?_⟩
  rcases h.h with ⟨z, rfl, hz⟩ | ⟨id', rfl, hh, h1, h2⟩
  · exact .inl ⟨z, rfl, hz⟩
  · have hne : id' ≠ id := by rintro rfl; exact hv _ _ _ _ rfl
    exact .inr ⟨id', rfl, (if_neg hne).trans hh, h1, h2⟩
theorem Own.ne {S0 S' : AS} {v : AV} {rs : List (List AV)} {id : Nat} {cs : List AV} (h : Own S0 S' 1 v rs) (hh : S'.heap id = some (.rows 7 [cs])) : ∀ a b c d, v ≠ .arr id a b c d := by
  rintro a b c d rfl
  rcases h.h with ⟨z, e, _⟩ | ⟨id', e, h1, _⟩
  · cases e
  · cases e; rw [hh] at h1; cases h1

def doneS (l : List T) : List ByteArray := l.map fun k => cutD k.name ⟨#[100]⟩
theorem doneS_take {l : List T} {i : Nat} {k : T} (h : l[i]? = some k) : sRow (doneS (l.take (i + 1))) = sRow (doneS (l.take i)) ++ [[.sc (.string (cutD k.name ⟨#[100]⟩))]] := by
  rw [List.take_add_one, h]; simp [doneS, sRow]
theorem opev_appA {sz bytes : Nat} {S : AS} {s x : AV} {d : Option Nat} {rg : Nat → Option (List AV)} {v : AV} {S' : AS} {ys : List (List AV)} (hy : rowsOf sz S x = some ys) (h : opev (.append sz bytes) d rg S [s, x] = some (v, none, S')) : appendA sz bytes S s ys = some (v, S') := by
  simp only [opev, hy, Option.bind_some, Option.map_eq_some_iff] at h
  obtain ⟨r, h1, h2⟩ := h
  cases h2; exact h1
end
end Abs

namespace Abs
open Go

def readC (k1 k2 k3 k4 k5 : T) : Ck := ⟨cutD k1.name ⟨#[99]⟩, cutD k2.name ⟨#[110]⟩, doneS k3.kids, k4, atoN (cutD k5.name ⟨#[117]⟩)⟩
def openP (key t : T) (now : Int) : Ck × Int :=
  if t.right && decide (t.kind = 4) then
    match t.kids with
    | [k0, b] => if k0.same key then
        (match b.kids with
        | [_, k1, k2, k3, k4, k5] => if (sealT key (readC k1 k2 k3 k4 k5)).same t then (if (readC k1 k2 k3 k4 k5).upto < now then (ckZero, 5) else (readC k1 k2 k3 k4 k5, 0)) else (ckZero, 2)
        | _ => (ckZero, 2)) else (ckZero, 4)
    | _ => (ckZero, 2)
  else (ckZero, 2)

theorem cutB_le {s p r : ByteArray} (h : cutB s p = some r) : r.size ≤ s.size := by have := cutB_size h; omega
theorem cutD_le {s p : ByteArray} : (cutD s p).size ≤ s.size := by
  unfold cutD
  cases h : cutB s p with
  | none => exact Nat.le_refl _
  | some r => exact cutB_le h
theorem atoN_in {s : ByteArray} : inI (atoN s) := by
  unfold atoN
  cases h : Lib.atoiAll s.data.toList with
  | ok v => exact atoiAll_in h
  | range => show inI (Lib.atoiSat _); unfold Lib.atoiSat inI; split <;> omega
  | _ => exact inI0
section
variable {S : AS}
theorem lstS_nrm' {f : Bool} (l : List ByteArray) : (AV.lst 1 f (sRow l)).nrm = lstS l := by
  rw [AV.nrm, nrm_sRow]; rfl
theorem Own.isSs {S0 S' : AS} {v : AV} {l : List ByteArray} (h : Own S0 S' 1 v (sRow l)) : IsSs S' v l := by
  rcases h.h with ⟨z, rfl, hz⟩ | ⟨id, rfl, hh, h1, h2⟩
  · rcases hz with hz | rfl
    · have : l = [] := by cases l with | nil => rfl | cons _ _ => simp [sRow] at hz
      subst this; exact isSs_nil
    · refine ⟨rfl, ?_, ?_, fun S' _ => ?_⟩
      · rw [lstS_nrm' l]; simp
      · rw [lstS_nrm' l]; simp
      · rw [lstS_nrm' l]; exact lstS_rows S' l
  · exact isSs_arr (slice_of hh (Nat.zero_le _)) h2 (by simp)
theorem T.enc_kids {t : T} (h : t.rshp = true) (h4 : t.kind = 4) : ∃ a b, t.kids = [a, b] := by
  rw [t.rshp_def, Bool.and_eq_true] at h
  obtain ⟨_, _, h3⟩ := T.one_iff.1 h.1
  have hk : kdn t.kind = 2 := by rw [h4]; rfl
  have : t.kids.length = 2 := by omega
  match hl : t.kids, this with
  | [a, b], _ => exact ⟨a, b, rfl⟩
theorem T.bd_kid {r : Nat} {t u : T} (h : t.bd r) (hu : u ∈ t.kids) : u.bd r := by
  obtain ⟨k, n, l⟩ := t
  exact bdL_iff.1 h.2.2 u hu
theorem T.bd_len {r : Nat} {t : T} (h : t.bd r) : t.kids.length * 48 ≤ r := by
  obtain ⟨k, n, l⟩ := t
  exact h.2.1
theorem T.bd_name {r : Nat} {t : T} (h : t.bd r) : t.name.size ≤ r := by
  obtain ⟨k, n, l⟩ := t
  exact h.1
theorem T.ofit_kid {t u : T} (h : t.ofit) (hu : u ∈ t.kids) : u.ofit := (t.ofit_def.1 h).2 u hu
theorem readC_ok {k1 k2 k3 k4 k5 : T} (h1 : k1.bd 140737488355328) (h2 : k2.bd 140737488355328) (h3 : k3.bd 140737488355328) (h4 : k4.bd 140737488355328) (ho : k4.ofit) : (readC k1 k2 k3 k4 k5).ok where
  client := by have := @cutD_le k1.name ⟨#[99]⟩; have := T.bd_name h1; show (cutD _ _).size ≤ _; omega
  nonce := by have := @cutD_le k2.name ⟨#[110]⟩; have := T.bd_name h2; show (cutD _ _).size ≤ _; omega
  done := by have := T.bd_len h3; show (doneS k3.kids).length * 48 ≤ _; unfold doneS; rw [List.length_map]; exact this
  names := by
    intro s hs
    obtain ⟨u, hu, rfl⟩ := List.mem_map.1 hs
    have := @cutD_le u.name ⟨#[100]⟩
    have := T.bd_name (T.bd_kid h3 hu)
    omega
  upto := atoN_in
  fits := T.fits_bd (by omega) h4
  ofit := ho
theorem fits_doneT {l : List ByteArray} : fitsL (doneT l) := by
  rw [fitsL_iff]; intro t ht
  obtain ⟨s, _, rfl⟩ := List.mem_map.1 ht
  exact ⟨by simp, trivial⟩
theorem seal_fits {key : T} {c : Ck} (hf : key.fits) (hc : c.ok) : (sealT key c).fits := by
  unfold sealT
  split
  · have hd := hc.done
    have e : (tPair (doneT c.done)).fits := ⟨by rw [doneT_len]; omega, fits_doneT⟩
    refine ⟨by simp, hf, ⟨by simp [bodyT], ?_⟩, trivial⟩
    have f0 : ∀ s, (tData s).fits := fun s => ⟨by simp, trivial⟩
    exact ⟨f0 _, f0 _, f0 _, e, hc.fits, f0 _, trivial⟩
  · exact ⟨by simp, trivial⟩
theorem calm_zC {S S' : AS} {n : Int} : calmR S (some (.tup [.agg zC, .sc (.int .i64 n)], S')) = some (.tup [.agg ckZero.cells, .sc (.int .i64 n)], S) := by
  simp [ckZero, Ck.cells, tZero, T.kind, T.name, T.kids, lstS, lstT, lstN, sRow, AV.pure]
theorem opev_ld7 {S : AS} {id : Nat} {cs : List AV} {d : Option Nat} {rg : Nat → Option (List AV)} (hh : S.heap id = some (.rows 7 [cs])) (hl : cs.length = 7) : opev (.ld none 7 true) d rg S [.ptr id 0 0] = some (.agg cs, none, S) := by
  rw [opev_ld_ptr hh]
  have : cs.take 7 = cs := List.take_of_length_le (by omega)
  simp [hl, this]
end
end Abs

namespace Abs
open Go

theorem cutD_app {p r : ByteArray} : cutD (p ++ r) p = r := by unfold cutD; rw [cutB_app]; rfl
theorem atoN_itoa {n : Int} (h : inI n) : atoN (itoaB n) = n := by
  unfold atoN
  rw [itoaB_list, atoi_itoa h.1 h.2]
theorem doneS_T {l : List ByteArray} : doneS (doneT l) = l := by
  unfold doneS doneT
  rw [List.map_map]
  have : ((fun k : T => cutD k.name ⟨#[100]⟩) ∘ fun s => tData (⟨#[100]⟩ ++ s)) = id := by
    funext s; exact cutD_app
  rw [this, List.map_id]
theorem readC_body {c : Ck} (h : inI c.upto) : readC (tData (⟨#[99]⟩ ++ c.client)) (tData (⟨#[110]⟩ ++ c.nonce)) (tPair (doneT c.done)) c.secret (tData (⟨#[117]⟩ ++ itoaB c.upto)) = c := by
  unfold readC
  have e1 : cutD (tData (⟨#[99]⟩ ++ c.client)).name ⟨#[99]⟩ = c.client := cutD_app
  have e2 : cutD (tData (⟨#[110]⟩ ++ c.nonce)).name ⟨#[110]⟩ = c.nonce := cutD_app
  have e3 : cutD (tData (⟨#[117]⟩ ++ itoaB c.upto)).name ⟨#[117]⟩ = itoaB c.upto := cutD_app
  have e4 : doneS (tPair (doneT c.done)).kids = c.done := doneS_T
  rw [e1, e2, e3, e4, atoN_itoa h]
theorem fit_iff {t : T} : t.fit = true ↔ t.rshp = true ∧ t.ord = true ∧ t.dp ≤ 57 := by
  unfold T.fit T.right
  simp only [Bool.and_eq_true, decide_eq_true_eq]
  constructor
  · rintro ⟨⟨⟨a, b⟩, c⟩, d⟩; exact ⟨a, c, d⟩
  · rintro ⟨a, c, d⟩; exact ⟨⟨⟨a, by omega⟩, c⟩, d⟩
theorem app_nonempty {x y : ByteArray} (h : x.size ≠ 0) : x ++ y ≠ ⟨#[]⟩ := by
  intro e
  have := congrArg ByteArray.size e
  rw [ByteArray.size_append] at this
  have h0 : (⟨#[]⟩ : ByteArray).size = 0 := rfl
  omega
theorem data_rshp {s : ByteArray} (h : s ≠ ⟨#[]⟩) : (tData s).rshp = true := by
  unfold tData
  rw [T.rshp]
  simp [T.one, knd, nmd, kdn, T.kind, T.name, T.kids, rshpL, h]
theorem data_ord {s : ByteArray} : (tData s).ord = true := rfl
theorem pair_rshp {l : List T} (h : ∀ t ∈ l, t.rshp = true) : (tPair l).rshp = true := by
  unfold tPair
  rw [T.rshp, rshpL_iff.2 h]
  simp [T.one, knd, nmd, kdn, T.kind, T.name, T.kids]
theorem pair_ord {l : List T} (h : ∀ t ∈ l, t.ord = true) : (tPair l).ord = true := by
  unfold tPair
  rw [T.ord, ordL_all, List.all_eq_true.2 h]; rfl
theorem enc_rshp {a b : T} (ha : a.rshp = true) (hb : b.rshp = true) : (tEnc a b).rshp = true := by
  unfold tEnc
  rw [T.rshp]
  simp [T.one, knd, nmd, kdn, T.kind, T.name, T.kids, rshpL, ha, hb]
theorem enc_ord {a b : T} (ha : a.ord = true) (hb : b.ord = true) : (tEnc a b).ord = true := by
  unfold tEnc
  rw [T.ord]
  simp [shareOk, ordL, ha, hb]
theorem dpL_le {l : List T} {n : Nat} (h : ∀ t ∈ l, t.dp ≤ n) : dpL l ≤ n := by
  induction l with
  | nil => exact Nat.zero_le _
  | cons t l ih => rw [dpL]; exact Nat.max_le.2 ⟨h t (by simp), ih fun x hx => h x (by simp [hx])⟩
theorem sz1 {b : UInt8} : (⟨#[b]⟩ : ByteArray).size ≠ 0 := by show 1 ≠ 0; omega
theorem body_rshp {c : Ck} (h : c.secret.rshp = true) : ∀ t ∈ bodyT c, t.rshp = true := by
  intro t ht
  simp only [bodyT, List.mem_cons, List.not_mem_nil, or_false] at ht
  rcases ht with rfl | rfl | rfl | rfl | rfl | rfl
  · exact data_rshp (by decide)
  · exact data_rshp (app_nonempty sz1)
  · exact data_rshp (app_nonempty sz1)
  · refine pair_rshp fun u hu => ?_
    obtain ⟨s, _, rfl⟩ := List.mem_map.1 hu
    exact data_rshp (app_nonempty sz1)
  · exact h
  · exact data_rshp (app_nonempty sz1)
theorem body_ord {c : Ck} (h : c.secret.ord = true) : ∀ t ∈ bodyT c, t.ord = true := by
  intro t ht
  simp only [bodyT, List.mem_cons, List.not_mem_nil, or_false] at ht
  rcases ht with rfl | rfl | rfl | rfl | rfl | rfl
  · rfl
  · rfl
  · rfl
  · refine pair_ord fun u hu => ?_
    obtain ⟨s, _, rfl⟩ := List.mem_map.1 hu
    rfl
  · exact h
  · rfl
theorem body_dp {c : Ck} (h : c.secret.dp ≤ 57) : ∀ t ∈ bodyT c, t.dp ≤ 57 := by
  intro t ht
  simp only [bodyT, List.mem_cons, List.not_mem_nil, or_false] at ht
  have d1 : ∀ s, (tData s).dp = 1 := fun s => rfl
  rcases ht with rfl | rfl | rfl | rfl | rfl | rfl
  · rw [d1]; omega
  · rw [d1]; omega
  · rw [d1]; omega
  · rw [T.dp_def]
    have : dpL (tPair (doneT c.done)).kids ≤ 1 := dpL_le fun u hu => by
      obtain ⟨s, _, rfl⟩ := List.mem_map.1 (show u ∈ doneT c.done from hu)
      rw [d1]; omega
    omega
  · exact h
  · rw [d1]; omega
theorem seal_right {key : T} {c : Ck} (hk : key.fit = true) (hs : c.secret.fit = true) : (tEnc key (tPair (bodyT c))).right = true := by
  obtain ⟨k1, k2, k3⟩ := fit_iff.1 hk
  obtain ⟨s1, s2, s3⟩ := fit_iff.1 hs
  rw [T.right_iff]
  refine ⟨enc_rshp k1 (pair_rshp (body_rshp s1)), ?_, enc_ord k2 (pair_ord (body_ord s2))⟩
  rw [T.dp_def]
  have h1 : dpL (tEnc key (tPair (bodyT c))).kids ≤ 58 := dpL_le fun u hu => by
    have hu : u ∈ [key, tPair (bodyT c)] := hu
    rcases List.mem_cons.1 hu with rfl | hu
    · omega
    · simp only [List.mem_singleton] at hu
      subst hu
      rw [T.dp_def]
      have : dpL (tPair (bodyT c)).kids ≤ 57 := dpL_le fun u hu => body_dp s3 u hu
      omega
  omega
theorem open_seal {key : T} {c : Ck} {now : Int} (hk : key.fit = true) (hs : c.secret.fit = true) (hu : inI c.upto) :
    openP key (sealT key c) now = if c.upto < now then (ckZero, 5) else (c, 0) := by
  have hse : sealT key c = tEnc key (tPair (bodyT c)) := by unfold sealT; rw [hk, hs]; rfl
  have hr := seal_right hk hs
  unfold openP
  rw [hse, hr]
  have h4 : (tEnc key (tPair (bodyT c))).kind = 4 := rfl
  rw [h4]
  simp only [decide_true, Bool.and_self, if_true]
  show (if key.same key then _ else _) = _
  rw [T.same_self, if_pos rfl]
  show (if (sealT key (readC _ _ _ _ _)).same _ then _ else _) = _
  rw [readC_body hu, hse, T.same_self, if_pos rfl]
/- with another key -/
theorem open_other {key other : T} {c : Ck} {now : Int} (hk : key.fit = true) (hs : c.secret.fit = true) (h : key.same other = false) : openP other (sealT key c) now = (ckZero, 4) := by
  have hse : sealT key c = tEnc key (tPair (bodyT c)) := by unfold sealT; rw [hk, hs]; rfl
  have hr := seal_right hk hs
  unfold openP
  rw [hse, hr]
  have h4 : (tEnc key (tPair (bodyT c))).kind = 4 := rfl
  rw [h4]
  simp only [decide_true, Bool.and_self, if_true]
  show (if key.same other then _ else _) = _
  rw [h]; rfl
end Abs

namespace Abs
open Go

def Ck.same (a b : Ck) : Bool := decide (a.client = b.client) && decide (a.nonce = b.nonce) && decide (a.upto = b.upto) && decide (a.done = b.done) && a.secret.same b.secret
theorem Ck.same_iff {a b : Ck} : a.same b = true ↔ a = b := by
  obtain ⟨a1, a2, a3, a4, a5⟩ := a
  obtain ⟨b1, b2, b3, b4, b5⟩ := b
  simp only [Ck.same, Bool.and_eq_true, decide_eq_true_eq, T.same_iff, Ck.mk.injEq]
  constructor
  · rintro ⟨⟨⟨⟨h1, h2⟩, h3⟩, h4⟩, h5⟩; exact ⟨h1, h2, h4, h5, h3⟩
  · rintro ⟨h1, h2, h4, h5, h3⟩; exact ⟨⟨⟨⟨h1, h2⟩, h3⟩, h4⟩, h5⟩
theorem Ck.same_self (a : Ck) : a.same a = true := Ck.same_iff.2 rfl
section
variable {S : AS}
/- how many, sixty-one at most -/
mutual
def T.c14 : T → Nat
  | .mk _ _ l => min (c14L l 1) 61
def c14L : List T → Nat → Nat
  | [], n => n
  | t :: l, n => if n ≤ 60 then c14L l (n + t.c14) else n
end
theorem T.c14_def : ∀ t : T, t.c14 = min (c14L t.kids 1) 61
  | .mk _ _ _ => by rw [T.c14]; rfl
theorem T.c14_le {t : T} : t.c14 ≤ 61 := by rw [T.c14_def]; omega
theorem c14L_stop {l : List T} {n : Nat} (h : 60 < n) : c14L l n = n := by
  cases l with
  | nil => rw [c14L]
  | cons t l => rw [c14L, if_neg (by omega)]
def T.small (t : T) : Bool := decide (t.c14 ≤ 60)
end
end Abs

namespace Abs
open Go

theorem call_nrm {S : AS} {k : Nat} {f : AFunc} {args args' : List AV} (h : Calm k f) (hr : args.any AV.isReg = false) (hr' : args'.any AV.isReg = false) (hz : nrmL args = args') (hz' : nrmL args' = args') (hl : Nat.ble args'.length f.ntmps = true) :
    call k args S = call k args' S := by
  rw [call_calm' h hr hz hl, call_calm h hr' hz' hl]
def atomK : T := tAtom ⟨#[107]⟩
def ck0 : Ck := ⟨⟨#[97]⟩, ⟨#[49]⟩, [], tAtom ⟨#[120]⟩, 9⟩
theorem atom_fit {s : ByteArray} (h : s ≠ ⟨#[]⟩) : (tAtom s).fit = true := by
  rw [fit_iff]
  refine ⟨?_, rfl, by show 1 ≤ 57; omega⟩
  unfold tAtom
  rw [T.rshp]
  simp [T.one, knd, nmd, kdn, T.kind, T.name, T.kids, rshpL, h]
theorem atom_fits {s : ByteArray} : (tAtom s).fits := ⟨by simp, trivial⟩
theorem atom_ofit {s : ByteArray} : (tAtom s).ofit := (T.ofit_def _).2 ⟨fun h => absurd h (by show ¬ ((2 : Int) = 9); decide), fun u hu => by cases hu⟩
theorem data_ofit {s : ByteArray} : (tData s).ofit := (T.ofit_def _).2 ⟨fun h => absurd h (by show ¬ ((1 : Int) = 9); decide), fun u hu => by cases hu⟩
theorem ck0_ok : ck0.ok where
  client := by decide
  nonce := by decide
  done := by show 0 * 48 ≤ _; omega
  names := fun s hs => by cases hs
  upto := by unfold inI; decide
  fits := atom_fits
  ofit := atom_ofit
theorem bd_iff {r : Nat} {t : T} : t.bd r ↔ t.name.size ≤ r ∧ t.kids.length * 48 ≤ r ∧ ∀ u ∈ t.kids, u.bd r := by
  obtain ⟨k, n, l⟩ := t
  rw [T.bd, bdL_iff]; rfl
theorem data_bd {r : Nat} {s : ByteArray} (h : s.size ≤ r) : (tData s).bd r := ⟨h, by show 0 * 48 ≤ _; omega, trivial⟩
theorem atom_bd {r : Nat} {s : ByteArray} (h : s.size ≤ r) : (tAtom s).bd r := ⟨h, by show 0 * 48 ≤ _; omega, trivial⟩
structure Ck.bd (c : Ck) : Prop where
  client : c.client.size + 1 ≤ 140737488355328
  nonce : c.nonce.size + 1 ≤ 140737488355328
  done : c.done.length * 48 ≤ 140737488355328
  names : ∀ s ∈ c.done, s.size + 1 ≤ 140737488355328
  upto : inI c.upto
  secret : c.secret.bd 140737488355328
  ofit : c.secret.ofit
theorem Ck.bd.ok {c : Ck} (h : c.bd) : c.ok where
  client := by have := h.client; omega
  nonce := by have := h.nonce; omega
  done := h.done
  names := fun s hs => by have := h.names s hs; omega
  upto := h.upto
  fits := T.fits_bd (by omega) h.secret
  ofit := h.ofit
theorem seal_bd {key : T} {c : Ck} (hk : key.bd 140737488355328) (hc : c.bd) : (sealT key c).bd 140737488355328 := by
  have one : ∀ {b : UInt8}, (⟨#[b]⟩ : ByteArray).size = 1 := rfl
  have n0 : (⟨#[]⟩ : ByteArray).size = 0 := rfl
  have hit := itoaB_le (n := c.upto) hc.upto.1 hc.upto.2
  unfold sealT
  split
  · rw [tEnc, bd_iff]
    refine ⟨by show (⟨#[]⟩ : ByteArray).size ≤ _; omega, by show 2 * 48 ≤ _; omega, fun u hu => ?_⟩
    have hu : u ∈ [key, tPair (bodyT c)] := hu
    simp only [List.mem_cons, List.not_mem_nil, or_false] at hu
    rcases hu with rfl | rfl
    · exact hk
    · rw [tPair, bd_iff]
      refine ⟨by show (⟨#[]⟩ : ByteArray).size ≤ _; omega, by show 6 * 48 ≤ _; omega, fun t ht => ?_⟩
      have ht : t ∈ bodyT c := ht
      simp only [bodyT, List.mem_cons, List.not_mem_nil, or_false] at ht
      rcases ht with rfl | rfl | rfl | rfl | rfl | rfl
      · exact data_bd (by show 6 ≤ _; omega)
      · exact data_bd (by rw [ByteArray.size_append, one]; have := hc.client; omega)
      · exact data_bd (by rw [ByteArray.size_append, one]; have := hc.nonce; omega)
      · rw [tPair, bd_iff]
        refine ⟨by show (⟨#[]⟩ : ByteArray).size ≤ _; omega, by show (doneT c.done).length * 48 ≤ _; rw [doneT_len]; exact hc.done, fun u hu => ?_⟩
        obtain ⟨s, hs, rfl⟩ := List.mem_map.1 (show u ∈ doneT c.done from hu)
        exact data_bd (by rw [ByteArray.size_append, one]; have := hc.names s hs; omega)
      · exact hc.secret
      · exact data_bd (by rw [ByteArray.size_append, one]; omega)
  · exact ⟨by show (⟨#[]⟩ : ByteArray).size ≤ _; omega, by show 0 * 48 ≤ _; omega, trivial⟩
theorem seal_ofit {key : T} {c : Ck} (hk : key.ofit) (hc : c.secret.ofit) : (sealT key c).ofit := by
  unfold sealT
  split
  · rw [T.ofit_def]
    refine ⟨fun h => absurd h (by show ¬ ((4 : Int) = 9); decide), fun u hu => ?_⟩
    have hu : u ∈ [key, tPair (bodyT c)] := hu
    simp only [List.mem_cons, List.not_mem_nil, or_false] at hu
    rcases hu with rfl | rfl
    · exact hk
    · rw [T.ofit_def]
      refine ⟨fun h => absurd h (by show ¬ ((3 : Int) = 9); decide), fun t ht => ?_⟩
      have ht : t ∈ bodyT c := ht
      simp only [bodyT, List.mem_cons, List.not_mem_nil, or_false] at ht
      rcases ht with rfl | rfl | rfl | rfl | rfl | rfl
      · exact data_ofit
      · exact data_ofit
      · exact data_ofit
      · rw [T.ofit_def]
        refine ⟨fun h => absurd h (by show ¬ ((3 : Int) = 9); decide), fun u hu => ?_⟩
        obtain ⟨s, hs, rfl⟩ := List.mem_map.1 (show u ∈ doneT c.done from hu)
        exact data_ofit
      · exact hc
      · exact data_ofit
  · exact (T.ofit_def _).2 ⟨fun h => absurd h (by show ¬ ((0 : Int) = 9); decide), fun u hu => by cases hu⟩
theorem ck0_bd : ck0.bd where
  client := by show 1 + 1 ≤ _; omega
  nonce := by show 1 + 1 ≤ _; omega
  done := by show 0 * 48 ≤ _; omega
  names := fun s hs => by cases hs
  upto := by unfold inI; decide
  secret := atom_bd (by show 1 ≤ _; omega)
  ofit := atom_ofit
section
variable {S : AS}
theorem sealT_fit {key : T} {c : Ck} (hk : key.fit = true) (hs : c.secret.fit = true) : sealT key c = tEnc key (tPair (bodyT c)) := by
  unfold sealT; rw [hk, hs]; rfl
theorem atomK_fit : atomK.fit = true := atom_fit (by decide)
theorem ck0_fit : ck0.secret.fit = true := atom_fit (by decide)
theorem mk_bulk {k : Int} {n : ByteArray} {l : List T} : (T.mk k n l).bulk = n.size + bulkL l + 4 := by rw [T.bulk]; omega
theorem bulkL_nil : bulkL [] = 0 := by rw [bulkL]
theorem bulkL_cons {t : T} {l : List T} : bulkL (t :: l) = t.bulk + bulkL l := by rw [bulkL]
theorem n0 : (⟨#[]⟩ : ByteArray).size = 0 := rfl
theorem data_bulk {s : ByteArray} : (tData s).bulk = s.size + 4 := by unfold tData; rw [mk_bulk, bulkL_nil]
theorem atom_bulk {s : ByteArray} : (tAtom s).bulk = s.size + 4 := by unfold tAtom; rw [mk_bulk, bulkL_nil]
theorem pair_bulk {l : List T} : (tPair l).bulk = bulkL l + 4 := by unfold tPair; rw [mk_bulk, n0]; omega
theorem enc_bulk {a b : T} : (tEnc a b).bulk = a.bulk + b.bulk + 4 := by unfold tEnc; rw [mk_bulk, n0, bulkL_cons, bulkL_cons, bulkL_nil]; omega
def doneB : List ByteArray → Nat
  | [] => 0
  | s :: l => s.size + 5 + doneB l
theorem doneT_bulk : ∀ {l : List ByteArray}, bulkL (doneT l) = doneB l
  | [] => bulkL_nil
  | s :: l => by
    have e : doneT (s :: l) = tData (⟨#[100]⟩ ++ s) :: doneT l := rfl
    rw [e, bulkL_cons, data_bulk, doneT_bulk, ByteArray.size_append, doneB]
    have : (⟨#[100]⟩ : ByteArray).size = 1 := rfl
    omega
theorem body_bulk {c : Ck} (h : inI c.upto) : bulkL (bodyT c) ≤ c.client.size + c.nonce.size + doneB c.done + c.secret.bulk + 100 := by
  have h9 := itoaB_le h.1 h.2
  have n6 : (⟨#[99, 111, 111, 107, 105, 101]⟩ : ByteArray).size = 6 := rfl
  have e1 : (⟨#[99]⟩ : ByteArray).size = 1 := rfl
  have e2 : (⟨#[110]⟩ : ByteArray).size = 1 := rfl
  have e3 : (⟨#[117]⟩ : ByteArray).size = 1 := rfl
  unfold bodyT
  rw [bulkL_cons, bulkL_cons, bulkL_cons, bulkL_cons, bulkL_cons, bulkL_cons, bulkL_nil, data_bulk, data_bulk, data_bulk, data_bulk, pair_bulk, doneT_bulk, ByteArray.size_append, ByteArray.size_append, ByteArray.size_append]
  omega
theorem seal_bulk {key : T} {c : Ck} (h : inI c.upto) : (sealT key c).bulk ≤ key.bulk + c.client.size + c.nonce.size + doneB c.done + c.secret.bulk + 200 := by
  unfold sealT
  split
  · have := body_bulk h
    rw [enc_bulk, pair_bulk]; omega
  · unfold tZero; rw [mk_bulk, n0, bulkL_nil]; omega
theorem seal0_bulk : (sealT atomK ck0).bulk ≤ 1099511627776 := by
  have h := seal_bulk (key := atomK) (c := ck0) ck0_bd.upto
  have e1 : atomK.bulk = 5 := atom_bulk
  have e2 : ck0.secret.bulk = 5 := atom_bulk
  have e3 : ck0.client.size = 1 := rfl
  have e4 : ck0.nonce.size = 1 := rfl
  have e5 : doneB ck0.done = 0 := rfl
  omega
theorem text0 : (tEnc atomK (tPair (bodyT ck0))).text = ⟨#[101, 40, 97, 49, 58, 107, 44, 112, 40, 100, 54, 58, 99, 111, 111, 107, 105, 101, 44, 100, 50, 58, 99, 97, 44, 100, 50, 58, 110, 49, 44, 112, 40, 41, 44, 97, 49, 58, 120, 44, 100, 50, 58, 117, 57, 41, 41]⟩ := by
  have n9 : itoaB 9 = digB 9 := by rw [show (9 : Int) = ((9 : Nat) : Int) from rfl, itoaB_nat, numB_one (by omega)]
  have m1 : numB 1 = digB 1 := numB_one (by omega)
  have m2 : numB 2 = digB 2 := numB_one (by omega)
  have m6 : numB 6 = digB 6 := numB_one (by omega)
  have a1 : nameT ⟨#[107]⟩ = ⟨#[49, 58, 107]⟩ := by unfold nameT; rw [if_neg (by decide), show (⟨#[107]⟩ : ByteArray).size = 1 from rfl, m1]; rfl
  have a2 : nameT ⟨#[120]⟩ = ⟨#[49, 58, 120]⟩ := by unfold nameT; rw [if_neg (by decide), show (⟨#[120]⟩ : ByteArray).size = 1 from rfl, m1]; rfl
  have a3 : nameT ⟨#[99, 111, 111, 107, 105, 101]⟩ = ⟨#[54, 58, 99, 111, 111, 107, 105, 101]⟩ := by unfold nameT; rw [if_neg (by decide), show (⟨#[99, 111, 111, 107, 105, 101]⟩ : ByteArray).size = 6 from rfl, m6]; rfl
  have b1 : (⟨#[99]⟩ : ByteArray) ++ ck0.client = ⟨#[99, 97]⟩ := rfl
  have b2 : (⟨#[110]⟩ : ByteArray) ++ ck0.nonce = ⟨#[110, 49]⟩ := rfl
  have b3 : (⟨#[117]⟩ : ByteArray) ++ itoaB ck0.upto = ⟨#[117, 57]⟩ := by show _ ++ itoaB 9 = _; rw [n9]; rfl
  have a4 : nameT ⟨#[99, 97]⟩ = ⟨#[50, 58, 99, 97]⟩ := by unfold nameT; rw [if_neg (by decide), show (⟨#[99, 97]⟩ : ByteArray).size = 2 from rfl, m2]; rfl
  have a5 : nameT ⟨#[110, 49]⟩ = ⟨#[50, 58, 110, 49]⟩ := by unfold nameT; rw [if_neg (by decide), show (⟨#[110, 49]⟩ : ByteArray).size = 2 from rfl, m2]; rfl
  have a6 : nameT ⟨#[117, 57]⟩ = ⟨#[50, 58, 117, 57]⟩ := by unfold nameT; rw [if_neg (by decide), show (⟨#[117, 57]⟩ : ByteArray).size = 2 from rfl, m2]; rfl
  have a0 : nameT ⟨#[]⟩ = ⟨#[]⟩ := rfl
  unfold bodyT
  rw [b1, b2, b3]
  unfold atomK
  simp only [tEnc, tPair, tData, tAtom, doneT, ck0, List.map_nil, T.text, joinT, commaT, hdT, a0, a1, a2, a3, a4, a5, a6, List.isEmpty_cons, List.isEmpty_nil]
  rfl
theorem seal0_txt : (sealT atomK ck0).txt = ⟨#[101, 40, 97, 49, 58, 107, 44, 112, 40, 100, 54, 58, 99, 111, 111, 107, 105, 101, 44, 100, 50, 58, 99, 97, 44, 100, 50, 58, 110, 49, 44, 112, 40, 41, 44, 97, 49, 58, 120, 44, 100, 50, 58, 117, 57, 41, 41]⟩ := by
  have hr := T.right_iff.1 (seal_right atomK_fit ck0_fit)
  rw [sealT_fit atomK_fit ck0_fit]
  unfold T.txt
  rw [if_pos (by rw [hr.1]; simp [hr.2.1]), text0]
end
end Abs

namespace Abs
open Go

@[simp] theorem Ck.dr7 (c : Ck) : c.cells.drop 7 = [] := rfl
structure Ck.sm (c : Ck) : Prop where
  client : c.client.size ≤ 1073741824
  nonce : c.nonce.size ≤ 1073741824
  done : doneB c.done ≤ 1073741824
  secret : c.secret.bulk ≤ 1073741824
  upto : inI c.upto
mutual
theorem T.bd_mono {r b : Nat} (hr : r ≤ b) : ∀ {t : T}, t.bd r → t.bd b
  | .mk _ _ l, h => ⟨by have := h.1; omega, by have := h.2.1; omega, bdL_mono hr h.2.2⟩
theorem bdL_mono {r b : Nat} (hr : r ≤ b) : ∀ {l : List T}, bdL r l → bdL b l
  | [], _ => trivial
  | t :: l, h => ⟨T.bd_mono hr h.1, bdL_mono hr h.2⟩
end
theorem bulk_bd {t : T} (h : t.bulk ≤ 1099511627776) : t.bd 140737488355328 := T.bd_mono (r := 48 * 1099511627776) (by omega) (T.bd_bulk h)
theorem doneB_len : ∀ {l : List ByteArray}, l.length * 5 ≤ doneB l
  | [] => Nat.zero_le _
  | s :: l => by have := @doneB_len l; rw [doneB, List.length_cons]; omega
theorem doneB_mem : ∀ {l : List ByteArray}, ∀ s ∈ l, s.size + 5 ≤ doneB l
  | [], s, h => by cases h
  | a :: l, s, h => by
    rw [doneB]
    rcases List.mem_cons.1 h with rfl | h
    · omega
    · have := doneB_mem (l := l) s h; omega
theorem doneB_take : ∀ {l : List ByteArray} {n : Nat}, doneB (l.take n) ≤ doneB l
  | [], n => by simp
  | s :: l, 0 => Nat.zero_le _
  | s :: l, n + 1 => by rw [List.take_succ_cons, doneB, doneB]; have := @doneB_take l n; omega
theorem Ck.sm.few {c : Ck} (h : c.sm) : c.few.sm := ⟨h.client, h.nonce, Nat.le_trans doneB_take h.done, h.secret, h.upto⟩
theorem Ck.sm.bd {c : Ck} (h : c.sm) : c.bd where
  client := by have := h.client; omega
  nonce := by have := h.nonce; omega
  done := by have := h.done; have := @doneB_len c.done; omega
  names := fun s hs => by have := h.done; have := doneB_mem s hs; omega
  upto := h.upto
  secret := bulk_bd (by have := h.secret; omega)
  ofit := T.ofit_bulk (by have := h.secret; omega)
theorem sm_seal {key : T} {c : Ck} (hk : key.bulk ≤ 1073741824) (hc : c.sm) : (sealT key c).bulk ≤ 1099511627776 := by
  have h := seal_bulk (key := key) (c := c) hc.upto
  have := hc.client
  have := hc.nonce
  have := hc.done
  have := hc.secret
  omega
section
variable {S : AS}
theorem seal_kind {key : T} {c : Ck} : (sealT key c).kind = if key.fit && c.secret.fit then 4 else 0 := by
  unfold sealT; split <;> rfl
end
end Abs

namespace Abs
open Go

section
variable {S : AS}
theorem z118 : call 118 [.agg tZero.cells, .agg [.i 0, .s ⟨#[]⟩, .lst 0 true []]] S = some (.sc (.bool true), S) := by
  have hz : tZero.fits := ⟨by simp, trivial⟩
  rw [call_nrm a118 (args' := [.agg tZero.cells, .agg tZero.cells]) (by rw [cells_T]; rfl) (by rw [cells_T]; rfl) (by simp; rw [cells_T]; rfl) (by simp) rfl, s118 hz, T.same_self]
end
end Abs

namespace Abs
open Go

theorem open_kind {key t : T} {now : Int} (h : t.kind ≠ 4) : openP key t now = (ckZero, 2) := by
  unfold openP
  rw [if_neg]
  simp [h]
theorem open_two {key t : T} {now : Int} (h : t.kids.length ≠ 6) : openP key (tEnc key t) now = (ckZero, 2) := by
  unfold openP
  split
  · have e : (tEnc key t).kids = [key, t] := rfl
    rw [e]
    simp only [T.same_self, if_true]
    split
    · rename_i heq; rw [heq] at h; simp at h
    · rfl
  · rfl
theorem open_hash {key t : T} {now : Int} (hr : (tEnc (tHash key) t).right = true) (h : (tHash key).same key = false) : openP key (tEnc (tHash key) t) now = (ckZero, 4) := by
  unfold openP
  rw [hr, show (tEnc (tHash key) t).kind = 4 from rfl]
  have e : (tEnc (tHash key) t).kids = [tHash key, t] := rfl
  rw [e]
  simp [h]
theorem hash_rshp {a : T} (ha : a.rshp = true) : (tHash a).rshp = true := by
  unfold tHash
  rw [T.rshp]
  simp [T.one, knd, nmd, kdn, T.kind, T.name, T.kids, rshpL, ha]
theorem hash_ord {a : T} (ha : a.ord = true) : (tHash a).ord = true := by
  unfold tHash
  rw [T.ord]
  simp [shareOk, ordL, ha]
theorem share_kind {a b : T} : (tShare a b).kind = 9 := by unfold tShare; split <;> rfl
theorem share_bulk {a b : T} : (tShare a b).bulk = a.bulk + b.bulk + 4 := by
  unfold tShare; split <;> (rw [mk_bulk, n0, bulkL_cons, bulkL_cons, bulkL_nil]; omega)
theorem mac_bulk {a b : T} : (tMac a b).bulk = a.bulk + b.bulk + 4 := by unfold tMac; rw [mk_bulk, n0, bulkL_cons, bulkL_cons, bulkL_nil]; omega
theorem mask_bulk {a b : T} : (tMask a b).bulk = a.bulk + b.bulk + 4 := by unfold tMask; rw [mk_bulk, n0, bulkL_cons, bulkL_cons, bulkL_nil]; omega
theorem hash_bulk {a : T} : (tHash a).bulk = a.bulk + 4 := by unfold tHash; rw [mk_bulk, n0, bulkL_cons, bulkL_nil]; omega
def nmB (s : ByteArray) : ByteArray := ⟨#[107, 101, 121]⟩ ++ cutS s 20
theorem nmB_size {s : ByteArray} : (nmB s).size ≤ 23 := by
  unfold nmB
  rw [ByteArray.size_append]
  have h1 : (⟨#[107, 101, 121]⟩ : ByteArray).size = 3 := rfl
  have h2 : (cutS s 20).size ≤ 20 := by unfold cutS; rw [ByteArray.size_extract]; omega
  omega
theorem nmB_ne {s : ByteArray} : nmB s ≠ ⟨#[]⟩ := app_nonempty (by show 3 ≠ 0; omega)
theorem p_nmB {s : ByteArray} : pev (.bin .add) [.s ⟨#[107, 101, 121]⟩, .sc (.string (cutS s 20))] = some (.sc (.string (nmB s))) := by
  have h1 : (⟨#[107, 101, 121]⟩ : ByteArray).size = 3 := rfl
  have h2 : (cutS s 20).size ≤ 20 := by unfold cutS; rw [ByteArray.size_extract]; omega
  exact pev_sadd (by omega)
theorem setC3 {c : Ck} {t : T} : List.take 3 c.cells ++ (t.cells ++ List.drop 6 c.cells) = ({ c with secret := t } : Ck).cells := by
  rw [cells_T t]; rfl

section
variable {S : AS}
end
end Abs

namespace Abs
open Go

structure CkTy (P : Program) (ck i s ls t : TypeId) (fs : Array Field) : Prop where
  hs : P.underlying ck = some (.struct fs)
  hf : fs.toList.map (·.type) = [s, s, ls, t, i]
  hls : P.underlying ls = some (.slice s)
  hc1 : P.cellsOf s = 1
section
variable {H : Type} {P : Program} {t i s l : TypeId} {fs : Array Field} {B : DataW H → Nat} {BA : List (DataW H) → Nat} {n : Nat} {ts : List TypeId} {ds : List (DataW H)} {avs : List AV}
theorem rb_str (hB : IsBulk B BA) (hu : P.underlying s = some .string) (h : RdArgs P (s :: ts) ds avs) (hb : BA ds ≤ n) : ∃ (x : ByteArray) (ds' : List (DataW H)) (l : List AV), avs = .sc (.string x) :: l ∧ x.size ≤ n ∧ RdArgs P ts ds' l ∧ BA ds' ≤ n := by
  obtain ⟨d, ds', as, l, rfl, rfl, h1, h2⟩ := rdA_cons h
  obtain ⟨x, rfl, hx, rfl⟩ := rd_str hu h1
  rw [hB.consA, hB.str] at hb
  have : x.data.toList.length = x.size := by simp
  exact ⟨x, ds', l, by rw [argOf_one hu rfl], by omega, h2, by omega⟩
theorem rb_int (hB : IsBulk B BA) (hu : P.underlying i = some (.int .i64)) (h : RdArgs P (i :: ts) ds avs) (hb : BA ds ≤ n) : ∃ (x : Int) (ds' : List (DataW H)) (l : List AV), avs = .sc (.int .i64 x) :: l ∧ (-9223372036854775808 ≤ x ∧ x ≤ 9223372036854775807) ∧ RdArgs P ts ds' l ∧ BA ds' ≤ n := by
  obtain ⟨d, ds', as, l, rfl, rfl, h1, h2⟩ := rdA_cons h
  obtain ⟨x, rfl, hx, rfl⟩ := rd_int hu h1
  rw [hB.consA] at hb
  exact ⟨x, ds', l, by rw [argOf_one hu rfl], i64_in hx, h2, by omega⟩
theorem rb_term (hB : IsBulk B BA) (hT : TermTy P t i s l fs) (h : RdArgs P (t :: ts) ds avs) (hb : BA ds ≤ n) : ∃ (x : T) (ds' : List (DataW H)) (m : List AV), avs = .agg x.cells :: m ∧ x.kr ∧ x.bulk ≤ n ∧ RdArgs P ts ds' m ∧ BA ds' ≤ n := by
  obtain ⟨d, ds', as, m, rfl, rfl, h1, h2⟩ := rdA_cons h
  rw [hB.consA] at hb
  obtain ⟨x, rfl, hk, _, hbk⟩ := (term_of_rd hT hB (sizeOf d + 1)).1 d as (by omega) h1
  exact ⟨x, ds', m, by rw [argOf_struct hT.hs], hk, by omega, h2, by omega⟩
theorem strs_bulk (hB : IsBulk B BA) (hu : P.underlying s = some .string) : ∀ {es : List (DataW H)} {xs : List (List AV)}, RdR P s es xs → ∃ l : List ByteArray, xs = sRow l ∧ doneB l ≤ 5 * BA es
  | _, _, .nil => ⟨[], rfl, Nat.zero_le _⟩
  | _, _, .cons h ht => by
    obtain ⟨x, rfl, _, rfl⟩ := rd_str hu h
    obtain ⟨l, rfl, hl⟩ := strs_bulk hB hu ht
    refine ⟨x :: l, rfl, ?_⟩
    rw [hB.consA, hB.str, doneB]
    have : x.data.toList.length = x.size := by simp
    omega
theorem rb_strs (hB : IsBulk B BA) (hl : P.underlying l = some (.slice s)) (hu : P.underlying s = some .string) (hc : P.cellsOf s = 1) (h : RdArgs P (l :: ts) ds avs) (hb : BA ds ≤ n) : ∃ (x : List ByteArray) (ds' : List (DataW H)) (m : List AV), avs = lstS x :: m ∧ doneB x ≤ 5 * n ∧ RdArgs P ts ds' m ∧ BA ds' ≤ n := by
  obtain ⟨d, ds', as, m, rfl, rfl, h1, h2⟩ := rdA_cons h
  rw [hB.consA] at hb
  obtain ⟨es, xs, rfl, _, hx, hd⟩ := rd_slice hl h1
  obtain ⟨x, rfl, hy⟩ := strs_bulk hB hu hx
  refine ⟨x, ds', m, by rw [argOf_one hl rfl, hc]; rfl, ?_, h2, by omega⟩
  rcases hd with ⟨rfl, rfl⟩ | ⟨rest, rfl⟩
  · rw [hB.nilA] at hy; omega
  · rw [hB.slice] at hb; omega
theorem rb_ck {ck ls : TypeId} {fc : Array Field} (hB : IsBulk B BA) (hT : TermTy P t i s l fs) (hC : CkTy P ck i s ls t fc) (h : RdArgs P (ck :: ts) ds avs) (hb : BA ds ≤ n) : ∃ (c : Ck) (ds' : List (DataW H)) (m : List AV), avs = .agg c.cells :: m ∧ (c.client.size ≤ n ∧ c.nonce.size ≤ n ∧ doneB c.done ≤ 5 * n ∧ c.secret.bulk ≤ n ∧ inI c.upto) ∧ RdArgs P ts ds' m ∧ BA ds' ≤ n := by
  obtain ⟨d, ds', as, m, rfl, rfl, h1, h2⟩ := rdA_cons h
  rw [hB.consA] at hb
  obtain ⟨es, rfl, h⟩ := rd_struct hC.hs h1
  have hfc := hC.hf
  rw [argOf_struct hC.hs]
  have hls := hC.hls
  have hc1 := hC.hc1
  clear hC h1
  obtain ⟨fl⟩ := fc
  simp only at hfc
  have hlen : fl.length = 5 := by have := congrArg List.length hfc; simpa using this
  obtain ⟨f1, f2, f3, f4, f5, rfl⟩ : ∃ f1 f2 f3 f4 f5, fl = [f1, f2, f3, f4, f5] := by
    match fl, hlen with
    | [f1, f2, f3, f4, f5], _ => exact ⟨f1, f2, f3, f4, f5, rfl⟩
  · skip
    simp only [List.map_cons, List.map_nil, List.cons.injEq, and_true] at hfc
    obtain ⟨e1, e2, e3, e4, e5⟩ := hfc
    obtain ⟨d1, r, a1, m1, rfl, rfl, g1, h⟩ := rdF_cons h
    obtain ⟨d2, r, a2, m2, rfl, rfl, g2, h⟩ := rdF_cons h
    obtain ⟨d3, r, a3, m3, rfl, rfl, g3, h⟩ := rdF_cons h
    obtain ⟨d4, r, a4, m4, rfl, rfl, g4, h⟩ := rdF_cons h
    obtain ⟨d5, r, a5, m5, rfl, rfl, g5, h⟩ := rdF_cons h
    obtain ⟨rfl, rfl⟩ := rdF_nil h
    rw [e1] at g1; rw [e2] at g2; rw [e3] at g3; rw [e4] at g4; rw [e5] at g5
    obtain ⟨x1, rfl, _, rfl⟩ := rd_str hT.hst g1
    obtain ⟨x2, rfl, _, rfl⟩ := rd_str hT.hst g2
    obtain ⟨es, xs, rfl, _, hx, hd⟩ := rd_slice hls g3
    obtain ⟨x3, rfl, hy⟩ := strs_bulk hB hT.hst hx
    obtain ⟨x4, rfl, _, _, hbk⟩ := (term_of_rd hT hB (sizeOf d4 + 1)).1 d4 a4 (by omega) g4
    obtain ⟨x5, rfl, hx5, rfl⟩ := rd_int hT.hi g5
    rw [hB.agg, hB.consA, hB.consA, hB.consA, hB.consA, hB.consA, hB.nilA, hB.str, hB.str, hB.int] at hb
    have s1 : x1.data.toList.length = x1.size := by simp
    have s2 : x2.data.toList.length = x2.size := by simp
    refine ⟨⟨x1, x2, x3, x4, x5⟩, ds', m, ?_, ⟨?_, ?_, ?_, ?_, i64_in hx5⟩, h2, by omega⟩
    · rw [cells_T, hc1]; rfl
    · show x1.size ≤ n; omega
    · show x2.size ≤ n; omega
    · show doneB x3 ≤ 5 * n
      rcases hd with ⟨rfl, rfl⟩ | ⟨rest, rfl⟩
      · rw [hB.nilA] at hy; omega
      · rw [hB.slice] at hb; omega
    · show x4.bulk ≤ n; omega
end
end Abs

namespace Abs
open Go

abbrev bl (x : ByteArray) : List UInt8 := x.data.toList
theorem bl_app {x y : ByteArray} : bl (x ++ y) = bl x ++ bl y := by simp [ByteArray.data_append]
theorem bl_inj {x y : ByteArray} (h : bl x = bl y) : x = y := ba_data h
theorem numB_bl {n : Nat} : bl (numB n) = Lib.decDigits n := rfl
theorem digs_cut : ∀ {a b x y : List UInt8}, (∀ c ∈ a, isDig c) → (∀ c ∈ b, isDig c) → a ++ 58 :: x = b ++ 58 :: y → a = b ∧ x = y
  | [], [], x, y, _, _, h => by simp at h; exact ⟨rfl, h⟩
  | [], c :: b, x, y, _, hb, h => by
    simp at h
    have := hb c (by simp)
    rw [← h.1] at this
    exact absurd this (by decide)
  | c :: a, [], x, y, ha, _, h => by
    simp at h
    have := ha c (by simp)
    rw [h.1] at this
    exact absurd this (by decide)
  | c :: a, d :: b, x, y, ha, hb, h => by
    simp only [List.cons_append, List.cons.injEq] at h
    obtain ⟨e1, e2⟩ := digs_cut (fun z hz => ha z (by simp [hz])) (fun z hz => hb z (by simp [hz])) h.2
    exact ⟨by rw [h.1, e1], e2⟩
theorem numB_inj {m n : Nat} (h : numB m = numB n) : m = n := by
  have h1 := (decDigits_dig m).2.1
  have h2 := (decDigits_dig n).2.1
  have : Lib.decDigits m = Lib.decDigits n := by rw [← numB_bl, ← numB_bl, h]
  rw [← h1, this, h2]
theorem name_cut {m n : ByteArray} {x y : List UInt8} (hm : m ≠ ⟨#[]⟩) (hn : n ≠ ⟨#[]⟩) (h : bl (nameT m) ++ x = bl (nameT n) ++ y) : m = n ∧ x = y := by
  unfold nameT at h
  rw [if_neg hm, if_neg hn, bl_app, bl_app, bl_app, bl_app] at h
  have e58 : bl ⟨#[58]⟩ = [58] := rfl
  rw [e58] at h
  simp only [List.append_assoc, List.singleton_append] at h
  obtain ⟨h1, h2⟩ := digs_cut (fun c hc => (decDigits_dig m.size).1 c hc) (fun c hc => (decDigits_dig n.size).1 c hc) h
  have hs : m.size = n.size := numB_inj (bl_inj h1)
  have hl : (bl m).length = (bl n).length := by simp; exact hs
  obtain ⟨e1, e2⟩ := List.append_inj h2 hl
  exact ⟨bl_inj e1, e2⟩
theorem ltr_inj {k l : Int} (hk : knd k = true) (hl : knd l = true) (h : ltr k = ltr l) : k = l := by
  rcases knd_cases hk with rfl | rfl | rfl | rfl | rfl | rfl | rfl | rfl | rfl | rfl <;> rcases knd_cases hl with rfl | rfl | rfl | rfl | rfl | rfl | rfl | rfl | rfl | rfl <;> first | rfl | (exact absurd h (by decide))
def ltb (k : Int) : UInt8 := (bl (ltr k)).headD 0
theorem ltr_bl {k : Int} : bl (ltr k) = [ltb k] := rfl
theorem ltb_ne {k : Int} (hk : knd k = true) : ltb k ≠ 41 ∧ ltb k ≠ 44 := by
  rcases knd_cases hk with rfl | rfl | rfl | rfl | rfl | rfl | rfl | rfl | rfl | rfl <;> decide
theorem text_head {t : T} : ∃ r, bl t.text = ltb t.kind :: r := by
  rw [T.text_def]
  unfold hdT
  split <;> (simp only [bl_app, ltr_bl]; exact ⟨_, rfl⟩)
theorem rshp_ones {t : T} (h : t.rshp = true) : knd t.kind = true ∧ (nmd t.kind = true ↔ t.name ≠ ⟨#[]⟩) ∧ (kdn t.kind < 0 ∨ (t.kids.length : Int) = kdn t.kind) := by
  rw [t.rshp_def, Bool.and_eq_true] at h
  exact T.one_iff.1 h.1
theorem rshp_knd {t : T} (h : t.rshp = true) : knd t.kind = true := (rshp_ones h).1
theorem emp_kind {t : T} (hr : t.rshp = true) : (t.kids.isEmpty && !(decide (t.kind = 3))) = decide (t.kind ≤ 2) := by
  rw [t.rshp_def, Bool.and_eq_true] at hr
  obtain ⟨h1, h2, h3⟩ := T.one_iff.1 hr.1
  have hk := knd_cases h1
  by_cases hc : t.kids = []
  · have hz : t.kids.length = 0 := by rw [hc]; rfl
    rw [hz] at h3
    have : t.kind = 3 ∨ t.kind ≤ 2 := by
      rcases hk with h | h | h | h | h | h | h | h | h | h <;> rw [h] at h3 ⊢ <;> simp [kdn] at h3 <;> omega
    rw [hc]
    by_cases h3' : t.kind = 3
    · simp [h3']
    · have : t.kind ≤ 2 := by omega
      simp [h3', this]
  · have : ¬ t.kind ≤ 2 := by
      intro h
      have : t.kids.length = 0 := by
        rcases (show t.kind = 1 ∨ t.kind = 2 by omega) with h | h <;> rw [h] at h3 <;> simp [kdn] at h3 <;> simp [h3]
      exact hc (List.length_eq_zero_iff.1 this)
    simp [hc, this]
def Inj (t : T) : Prop := ∀ b : T, b.rshp = true → ∀ x y : List UInt8, bl t.text ++ x = bl b.text ++ y → t = b ∧ x = y
theorem bl0 : bl ⟨#[]⟩ = [] := rfl
theorem bl44 : bl ⟨#[44]⟩ = [44] := rfl
theorem comma_inj : ∀ {l : List T}, (∀ t ∈ l, Inj t) → ∀ {m : List T}, (∀ t ∈ m, t.rshp = true) → ∀ {x y : List UInt8}, bl (commaT l) ++ 41 :: x = bl (commaT m) ++ 41 :: y → l = m ∧ x = y
  | [], _, [], _, x, y, h => by
    have h : 41 :: x = 41 :: y := h
    simp at h; exact ⟨rfl, h⟩
  | [], _, b :: m, _, x, y, h => by
    rw [commaT, commaT, bl_app, bl_app] at h
    simp [bl0, bl44] at h
  | a :: l, _, [], _, x, y, h => by
    rw [commaT, commaT, bl_app, bl_app] at h
    simp [bl0, bl44] at h
  | a :: l, hl, b :: m, hm, x, y, h => by
    rw [commaT, commaT, bl_app, bl_app, bl_app, bl_app] at h
    have h : 44 :: (bl a.text ++ (bl (commaT l) ++ 41 :: x)) = 44 :: (bl b.text ++ (bl (commaT m) ++ 41 :: y)) := by simpa [bl0, bl44] using h
    simp only [List.cons.injEq, true_and] at h
    obtain ⟨e1, e2⟩ := hl a (by simp) b (hm b (by simp)) _ _ h
    obtain ⟨e3, e4⟩ := comma_inj (fun t ht => hl t (by simp [ht])) (fun t ht => hm t (by simp [ht])) e2
    exact ⟨by rw [e1, e3], e4⟩
theorem join_inj {l m : List T} (hl : ∀ t ∈ l, Inj t) (hlr : ∀ t ∈ l, t.rshp = true) (hm : ∀ t ∈ m, t.rshp = true) {x y : List UInt8} (h : bl (joinT l) ++ 41 :: x = bl (joinT m) ++ 41 :: y) : l = m ∧ x = y := by
  cases l with
  | nil =>
    cases m with
    | nil =>
      have h : 41 :: x = 41 :: y := h
      simp at h; exact ⟨rfl, h⟩
    | cons b m =>
      obtain ⟨r, hr⟩ := @text_head b
      rw [joinT, joinT, bl_app, hr] at h
      have h : 41 :: x = ltb b.kind :: (r ++ bl (commaT m) ++ 41 :: y) := by simpa [bl0, bl44] using h
      simp only [List.cons.injEq] at h
      exact absurd h.1.symm (ltb_ne (rshp_knd (hm b (by simp)))).1
  | cons a l =>
    cases m with
    | nil =>
      obtain ⟨r, hr⟩ := @text_head a
      rw [joinT, joinT, bl_app, hr] at h
      have h : ltb a.kind :: (r ++ bl (commaT l) ++ 41 :: x) = 41 :: y := by simpa [bl0, bl44] using h
      simp only [List.cons.injEq] at h
      exact absurd h.1 (ltb_ne (rshp_knd (hlr a (by simp)))).1
    | cons b m =>
      rw [joinT, joinT, bl_app, bl_app, List.append_assoc, List.append_assoc] at h
      obtain ⟨e1, e2⟩ := hl a (by simp) b (hm b (by simp)) _ _ h
      obtain ⟨e3, e4⟩ := comma_inj (fun t ht => hl t (by simp [ht])) (fun t ht => hm t (by simp [ht])) e2
      exact ⟨by rw [e1, e3], e4⟩
theorem text_inj : ∀ (n : Nat) (a : T), sizeOf a < n → a.rshp = true → Inj a
  | 0, _, h, _ => by omega
  | n + 1, a, hn, ha => by
    intro b hb x y h
    have ih : ∀ t ∈ a.kids, Inj t := fun t ht => text_inj n t (by have := T.kid_lt ht; omega) (T.rshp_kid ha ht)
    have ka := rshp_knd ha
    have kb := rshp_knd hb
    rw [T.text_def, T.text_def, emp_kind ha, emp_kind hb] at h
    have hk : a.kind = b.kind := by
      apply ltr_inj ka kb
      apply bl_inj
      rw [ltr_bl, ltr_bl]
      unfold hdT at h
      have : ∀ (k : Int) (n : ByteArray) (c : Bool) (z w : ByteArray), ∃ r, bl (if c = true then ltr k ++ nameT n else ltr k ++ nameT n ++ z ++ w ++ ⟨#[41]⟩) = ltb k :: r := by
        intro k n c z w
        cases c <;> (simp only [Bool.false_eq_true, if_true, if_false, bl_app, ltr_bl]; exact ⟨_, rfl⟩)
      obtain ⟨r1, e1⟩ := this a.kind a.name (decide (a.kind ≤ 2)) ⟨#[40]⟩ (joinT a.kids)
      obtain ⟨r2, e2⟩ := this b.kind b.name (decide (b.kind ≤ 2)) ⟨#[40]⟩ (joinT b.kids)
      rw [e1, e2] at h
      simp only [List.cons_append, List.cons.injEq] at h
      rw [h.1]
    have hnm : ∀ z w : List UInt8, bl (nameT a.name) ++ z = bl (nameT b.name) ++ w → a.name = b.name ∧ z = w := by
      intro z w h
      obtain ⟨_, na, _⟩ := rshp_ones ha
      obtain ⟨_, nb, _⟩ := rshp_ones hb
      rw [← hk] at nb
      by_cases hn : nmd a.kind = true
      · exact name_cut (na.1 hn) (nb.1 hn) h
      · have ea : a.name = ⟨#[]⟩ := by by_cases e : a.name = ⟨#[]⟩; exact e; exact absurd (na.2 e) hn
        have eb : b.name = ⟨#[]⟩ := by by_cases e : b.name = ⟨#[]⟩; exact e; exact absurd (nb.2 e) hn
        rw [ea, eb] at h ⊢
        exact ⟨rfl, by simpa using h⟩
    rw [← hk] at h
    have fin : a.name = b.name → a.kids = b.kids → a = b := by
      obtain ⟨k1, n1, l1⟩ := a
      obtain ⟨k2, n2, l2⟩ := b
      intro e1 e2
      have hk : k1 = k2 := hk
      have e1 : n1 = n2 := e1
      have e2 : l1 = l2 := e2
      rw [hk, e1, e2]
    unfold hdT at h
    by_cases h2 : a.kind ≤ 2
    · simp only [h2, decide_true, if_true, bl_app, List.append_assoc] at h
      have h := List.append_cancel_left h
      obtain ⟨e1, e2⟩ := hnm _ _ h
      have l0 : ∀ t : T, t.rshp = true → t.kind ≤ 2 → t.kids = [] := by
        intro t ht h2
        have := emp_kind ht
        simp only [h2, decide_true, Bool.and_eq_true, List.isEmpty_iff] at this
        exact this.1
      exact ⟨fin e1 (by rw [l0 a ha h2, l0 b hb (by rw [← hk]; exact h2)]), e2⟩
    · simp only [h2, decide_false, Bool.false_eq_true, if_false, bl_app, List.append_assoc] at h
      have h := List.append_cancel_left h
      obtain ⟨e1, e2⟩ := hnm _ _ h
      have e40 : bl ⟨#[40]⟩ = [40] := rfl
      have e41 : bl ⟨#[41]⟩ = [41] := rfl
      rw [e40, e41] at e2
      simp only [List.singleton_append, List.cons.injEq, true_and] at e2
      obtain ⟨e3, e4⟩ := join_inj ih (fun t ht => T.rshp_kid ha ht) (fun t ht => T.rshp_kid hb ht) e2
      exact ⟨fin e1 e3, e4⟩
theorem text_same {a b : T} (ha : a.rshp = true) (hb : b.rshp = true) : a.text = b.text ↔ a = b := by
  refine ⟨fun h => ?_, fun h => by rw [h]⟩
  exact (text_inj _ a (Nat.lt_succ_self _) ha b hb [] [] (by rw [h])).1
end Abs
