/- The Client laws: a client and the KDC are made; shown. -/
import Derived.Test.YthcobbfffjfboaaGreatDoorG7
set_option linter.unusedVariables false
set_option linter.unusedSimpArgs false
set_option linter.unusedSectionVars false
namespace Abs
open Go
def subB : ByteArray := ⟨#[115, 117, 98]⟩
def xxB : ByteArray := ⟨#[120]⟩
def n1B : ByteArray := ⟨#[110]⟩
theorem c0_sz {pw sd : T} : (c0 pw sd).sz 10 := ⟨fun e => (by cases e), fun e => (by cases e), fun e => (by cases e), fun e => (by cases e), by show 0 ≤ _; omega, by show 1 ≤ _; omega, by show (0 : Int) ≤ 2 ∧ (2 : Int) ≤ 10; omega, by show 0 ≤ _; omega⟩
theorem atom_lo {n : ByteArray} (h : n.size ≤ 1000000) : (tAtom n).lo := by show (tAtom n).bulk ≤ _; rw [atom_bulk]; omega
theorem kd0_sz {j : Nat} : (kd0 (setL j)).sz 10 := by
 obtain ⟨h1, h2, h3, h4⟩ := @setL_ok j
 refine ⟨atom_lo (by show 6 ≤ _; omega), h1, by show (setL j).length ≤ 1000; omega, fun s hs => ?_, by show 1 ≤ _; omega, by show (0 : Int) ≤ 10; omega, by show (0 : Int) ≤ 0 ∧ (0 : Int) ≤ 10; omega, by show (0 : Int) ≤ 0 ∧ (0 : Int) ≤ 10; omega, by show 0 ≤ 10; omega⟩
 rcases h3 s hs with rfl | rfl | rfl
 ·show 9 ≤ _; omega
 ·show 3 ≤ _; omega
 ·show 5 ≤ _; omega
section
variable {S : AS}
theorem pr_of {S1 S2 : AS} {a : Nat} {c : Cl} {k : Nat} {L : Loc} {j : Nat} {o : Nat → Prop} (hcl : IsCl S1 a c (.lst 0 true [])) (hkd : IsKd S2 k L (kd0 (setL j)) []) (g1 : Chg S S1 (fun _ => False) o) (ho : ∀ x, ownC a (.lst 0 true []) x → o x) (g2 : Chg S1 S2 (fun _ => False) (ownK k L)) (hc : c.sz 10) :
 Pr S2 a c (.lst 0 true []) k L (kd0 (setL j)) [] 10 ∧ Chg S S2 (fun _ => False) (Pr.own a (.lst 0 true []) k L) := by
 have hcl2 : IsCl S2 a c (.lst 0 true []) := hcl.keep g2.1 g2.2.1 fun x hx _ => (g2.2.2 x hx fun e => e).1
 refine ⟨⟨hcl2, hkd, fun x hx hk => (g2.2.2 x (hcl.own_lt hx) fun e => e).2 hk, hc, kd0_sz, by simp⟩, g2.1.trans g1.1, Nat.le_trans g1.2.1 g2.2.1, fun x hx _ => ⟨?_, ?_⟩⟩
 ·exact (g2.2.2 x (Nat.lt_of_lt_of_le hx g1.2.1) fun e => e).1.trans (g1.2.2 x hx fun e => e).1
 ·rintro (e | e)
  ·exact (g1.2.2 x hx fun e => e).2 (ho x e)
  ·exact (g2.2.2 x (Nat.lt_of_lt_of_le hx g1.2.1) fun e => e).2 e
theorem beg (hS : S.ro ≤ S.n) {j : Nat} : ∃ S1 S2 b k L, call 132 [] S = some (.tup [.ptr S.n 0 0, .ptr b 0 0], S1) ∧ call 133 [lstS (setL j)] S1 = some (.ptr k 0 0, S2) ∧
 Pr S2 S.n (c0 (tAtom pwaB) (tAtom sdaB)) (.lst 0 true []) k L (kd0 (setL j)) [] 10 ∧ Chg S S2 (fun _ => False) (Pr.own S.n (.lst 0 true []) k L) := by
 obtain ⟨S1, b, d1, h1, hb, hb1, hb2, g1⟩ := c132 (S := S) hS
 have hS1 : S1.ro ≤ S1.n := by have := g1.1; have := g1.2.1; omega
 obtain ⟨S2, k, L, d2, h2, g2⟩ := c133 (S := S1) (j := j) hS1
 obtain ⟨p, g⟩ := pr_of h1 h2 g1 (fun x hx => by rcases hx with rfl | ⟨a, b, c, d, e⟩; exact .inl rfl; cases e) g2 c0_sz
 exact ⟨S1, S2, b, k, L, d1, d2, p, g⟩
theorem Pr.start {a : Nat} {c : Cl} {mv : AV} {k : Nat} {L : Loc} {K : Kd} {R : List (List AV)} {b : Nat} (h : Pr S a c mv k L K R b) {nonce : ByteArray} {sub : T} (hn : nonce.size ≤ 1099511627776) :
 ∃ S', call 138 [.ptr a 0 0, .sc (.string nonce), .agg sub.cells] S = some (.agg ((c.start nonce sub).says tNone tNone).cells, S') ∧ Pr S' a (c.start nonce sub) mv k L K R b ∧ Chg S S' (Pr.own a mv k L) (Pr.own a mv k L) := by
 obtain ⟨S', d, h', g⟩ := c138 (nonce := nonce) (sub := sub) h.cl (by omega) (by have := h.cs.name; omega)
 obtain ⟨p, g'⟩ := h.client h' g (Nat.le_refl b) (h.cs.start hn)
 exact ⟨S', d, p, g'⟩
theorem x_at : atT (tAtom xxB) := ⟨xxB, rfl, by decide, by show 1 ≤ _; omega⟩
theorem x_lo : (tAtom xxB).lo := atom_lo (by show 1 ≤ _; omega)
theorem pw_ok : pwaB ≠ ⟨#[]⟩ ∧ pwaB.size ≤ 1000 := ⟨by decide, by show 10 ≤ _; omega⟩
theorem sd_ok : sdaB ≠ ⟨#[]⟩ ∧ sdaB.size ≤ 1000 := ⟨by decide, by show 6 ≤ _; omega⟩
theorem sub_ok : subB ≠ ⟨#[]⟩ ∧ subB.size ≤ 1000 := ⟨by decide, by show 3 ≤ _; omega⟩
theorem n1_ok : n1B ≠ ⟨#[]⟩ ∧ n1B.size ≤ 700 := ⟨by decide, by show 1 ≤ _; omega⟩
theorem setL_nd {j : Nat} : (setL j).Nodup := by
 have n1 : chalB ≠ otpB := by decide
 have n2 : chalB ≠ spkB := by decide
 have n3 : otpB ≠ spkB := by decide
 match j with
 | 0 | 1 | 2 => simp [setL]
 | 3 => simp [setL, n1]
 | 4 => simp [setL, n3]
 | 5 => simp [setL, n2.symm]
 | 6 => simp [setL, n1, n2, n3]
 | _ + 7 => simp [setL, n3.symm, n2.symm, n1.symm]
theorem setL_cons (j : Nat) : ∃ nx rest, setL j = nx :: rest := by
 match h : setL j with
 | [] => have := (@setL_ok j).1; rw [h] at this; simp at this
 | nx :: rest => exact ⟨nx, rest, rfl⟩
theorem sti0 {K : Kd} {j : Nat} {pw sd nonce sn : ByteArray} {t0 : Int} (h : KD K (setL j)) (hpw : pw ≠ ⟨#[]⟩ ∧ pw.size ≤ 1000) (hsd : sd ≠ ⟨#[]⟩ ∧ sd.size ≤ 1000) (hno : nonce ≠ ⟨#[]⟩ ∧ nonce.size ≤ 700) (hsn : sn ≠ ⟨#[]⟩ ∧ sn.size ≤ 1000) :
 Sti (setL j) 0 ((c0 (tAtom pw) (tAtom sd)).start nonce (tAtom sn)) K (((c0 (tAtom pw) (tAtom sd)).start nonce (tAtom sn)).says tNone tNone) t0 := by
 obtain ⟨nx, rest, hs⟩ := setL_cons j
 obtain ⟨h1, h2, h3, h4⟩ := @setL_ok j
 have hnd := @setL_nd j
 rw [hs] at h h2 h3 hnd ⊢
 exact .inl ⟨rfl, nx, rest, ini_of h hpw hsd hno hsn h3 hnd (by simp at h2; omega), rfl⟩
theorem Pr.good {a : Nat} {c : Cl} {mv : AV} {k : Nat} {L : Loc} {K : Kd} {R : List (List AV)} {b i : Nat} {set : List ByteArray} {m : T} {t0 now : Int} (h : Pr S a c mv k L K R b) (hb : b ≤ 800) (hs : Sti set i c K m t0) (hi : i < set.length) (hn : t0 ≤ now ∧ now ≤ t0 + 5) (h0 : 0 ≤ now ∧ now ≤ 10000000) (gk : c.key = K.u.key) (gs : c.seed = K.u.seed) :
 ∃ S1 S2 r c' m' mv' L' K', call 137 [.ptr k 0 0, .agg m.cells, .sc (.int .i64 now)] S = some (.agg r, S1) ∧ call 141 [.ptr a 0 0, .agg r, .sc (.int .i64 now), .agg (tAtom xxB).cells] S1 = some (.tup [.agg (T.cells m'), .sc (.int .i64 0)], S2) ∧
  Pr S2 a c' mv' k L' K' R (b + 4) ∧ Sti set (i + 1) c' K' m' now ∧ c'.key = K'.u.key ∧ c'.seed = K'.u.seed ∧ c'.nonce = c.nonce ∧ Chg S S2 (Pr.own a mv k L) (Pr.own a mv' k L') := by
 obtain ⟨rd, hiss, hs', g1, g2, g3⟩ := hs.step (x := tAtom xxB) hi hn h0 gk gs (by have := h.ks.n; omega) x_at
 obtain ⟨S1, S2, mv', L', R', d1, d2, p, is, G⟩ := h.round (by omega) rd.mlo (now := now) (by omega) x_lo rd.rlo
 rw [rd.e] at d2
 rw [hiss] at is
 rw [show R' = R from is] at p
 exact ⟨S1, S2, _, _, _, mv', L', _, d1, d2, p, hs', g1, g2, g3, G⟩
theorem Pr.last {a : Nat} {c : Cl} {mv : AV} {k : Nat} {L : Loc} {K : Kd} {R : List (List AV)} {b i : Nat} {set : List ByteArray} {m : T} {t0 now : Int} (h : Pr S a c mv k L K R b) (hb : b ≤ 800) (hs : Sti set i c K m t0) (hi : i = set.length) (hn : t0 ≤ now ∧ now ≤ t0 + 5) (h0 : 0 ≤ now ∧ now ≤ 10000000) (gk : c.key = K.u.key) (gs : c.seed = K.u.seed) :
 ∃ S1 S2 r c' mv' L' K' dv s, call 137 [.ptr k 0 0, .agg m.cells, .sc (.int .i64 now)] S = some (.agg r, S1) ∧ call 141 [.ptr a 0 0, .agg r, .sc (.int .i64 now), .agg (tAtom xxB).cells] S1 = some (.tup [.agg tNone.cells, .sc (.int .i64 0)], S2) ∧
  Pr S2 a c' mv' k L' K' (R ++ [issR c.name c.nonce (.arr dv 1 0 set.length none) s]) (b + 4) ∧ S2.heap dv = some (.rows 1 (sRow set)) ∧ dv < S2.n ∧ c'.ended = true ∧ c'.on = false ∧ c'.session = s ∧ s.fits ∧ c'.nonce = c.nonce ∧ c'.marks = set.map (fun d => (d, c.nonce)) ∧ CtOf c' set ∧ Chg S S2 (Pr.own a mv k L) (Pr.own a mv' k L') := by
 obtain ⟨rd, hiss, ht, hm, hc⟩ := hs.last (x := tAtom xxB) hi hn gk gs (by have := h.ks.n; omega)
 obtain ⟨S1, S2, mv', L', R', d1, d2, p, is, G⟩ := h.round (by omega) rd.mlo (now := now) (by omega) x_lo rd.rlo
 rw [hiss] at is
 obtain ⟨id, e1, e2, e3, e4, e5⟩ := is
 rw [e1] at p
 rw [ht] at d2 p
 exact ⟨S1, S2, _, _, mv', L', _, id, drawT (K.n + 1), d1, d2, p, e2, e4, rfl, rfl, rfl, T.fits_bulk (draw_lo (by have := h.ks.n; omega) (by have := h.ks.n; omega)), rfl, hm, hc, G⟩
end
section
variable {S : AS}
theorem GV.at_ {S : AS} {sz : Nat} {v : AV} {R : List (List AV)} (h : GV S sz v R) {i : Nat} (hi : i < R.length) : ∃ id, IsArr v id ∧ pev (.iaddr sz) [v, .sc (.int .i64 (i : Int))] = some (.ptr id i 0) ∧ S.heap id = some (.rows sz R) ∧ S.ro ≤ id ∧ id < S.n := by
 rcases h with ⟨rfl, _⟩ | ⟨id, rfl, h1, h2, h3⟩
 ·simp at hi
 ·exact ⟨id, ⟨_, _, _, _, rfl⟩, by rw [pev_iaddrA (by omega) (by omega)]; simp, h1, h2, h3⟩
theorem iss_at {k : Nat} {L : Loc} {K : Kd} {cl no : ByteArray} {dv : AV} {s : T} (h : IsKd S k L K [issR cl no dv s]) : ∃ x, pev (.iaddr 6) [L.iv, .i 0] = some (.ptr x 0 0) ∧ (∀ d rg, opev (.ld none 3 true) d rg S [.ptr x 0 3] = some (.agg s.cells, none, S)) ∧ (∀ d rg, opev (.ld none 1 false) d rg S [.ptr x 0 2] = some (dv, none, S)) ∧ pev .lenL [L.iv] = some (.i 1) := by
 obtain ⟨x, _, h1, h2, _, _⟩ := h.gv.at_ (i := 0) (by simp)
 refine ⟨x, h1, fun d rg => ?_, fun d rg => ?_, h.gv.len⟩
 ·rw [opev_ld_ptr h2, ← tri]; unfold issR; rw [cells_T]; rfl
 ·rw [opev_ld_ptr h2]; unfold issR; rw [cells_T]; rfl
theorem none84 : call 84 [.agg tNone.cells] S = some (.sc (.bool true), S) := by rw [s84, isNone_none]
theorem marksV_len {l : List (ByteArray × ByteArray)} : pev .lenL [marksV l] = some (.sc (.int .i64 (l.length : Nat))) := by
 unfold marksV; rw [pev_lenLN]; simp [Cl.mrow]
theorem marksV_reg {l : List (ByteArray × ByteArray)} : (marksV l).isReg = false := rfl
set_option maxHeartbeats 8000000 in
set_option maxRecDepth 100000 in
theorem s131 : call 131 [] S = some (.sc (.bool true), S) := by
 rw [call_calm a131 rfl rfl rfl]
 obtain ⟨S1, S2, bp, k, L, d1, d2, p, _⟩ := beg (S := { S with ro := S.n }) (Nat.le_refl _) (j := 7)
 obtain ⟨S3, d3, p3, _⟩ := p.start (nonce := n1B) (sub := tAtom subB) (by show 1 ≤ _; omega)
 have hs0 := sti0 (K := kd0 (setL 7)) (j := 7) (nonce := n1B) (sn := subB) (t0 := 0) kd0_KD pw_ok sd_ok n1_ok sub_ok
 have e134 : ∀ S, call 134 [.i 7] S = some (lstS (setL 7), S) := fun S => s134
 have e140 := fun S s => @s140 S s
 have hcl := (Nat.le_refl 0)
 have gk : ((c0 (tAtom pwaB) (tAtom sdaB)).start n1B (tAtom subB)).key = (kd0 (setL 7)).u.key := rfl
 have gs : ((c0 (tAtom pwaB) (tAtom sdaB)).start n1B (tAtom subB)).seed = (kd0 (setL 7)).u.seed := rfl
 have gn : ((c0 (tAtom pwaB) (tAtom sdaB)).start n1B (tAtom subB)).nonce = n1B := rfl
 generalize ((c0 (tAtom pwaB) (tAtom sdaB)).start n1B (tAtom subB)).says tNone tNone = m0 at *
 generalize (c0 (tAtom pwaB) (tAtom sdaB)).start n1B (tAtom subB) = cc at *
 have hl3 : (setL 7).length = 3 := rfl
 have hot : otpB ∈ setL 7 := by simp [setL]
 generalize kd0 (setL 7) = KK at *
 generalize setL 7 = st7 at *
 unfold n1B subB at d3
 simp only [f131]
 simp [-calmR_some, f131b, d1, d2, e134, e140, d3]
 refine loop_genR (α := Nat) (R := fun _ r => calmR S r = some (.sc (.bool true), S)) (fun i e rg S' => i ≤ 3 ∧ NQ [0, 6, 7, 28, 29, 30, 31, 32, 33, 34, 35, 36, 37, 38, 39, 40, 41, 42, 43] [6] e ∧ e 1 = .ptr S.n 0 0 ∧ e 3 = .ptr k 0 0 ∧ e 4 = .reg 4 0 ∧ e 5 = .sc (.int .i64 (i : Nat)) ∧ ∃ c mv L K m b, Pr S' S.n c mv k L K [] b ∧ b ≤ 10 + 4 * i ∧ Sti st7 i c K m 0 ∧ c.key = K.u.key ∧ c.seed = K.u.seed ∧ c.nonce = n1B ∧ rg 4 = some m.cells ∧ rg 8 = none ∧ rg 10 = none) (fun i => 3 - i) (fun _ _ _ _ h => h.2.1) ?_ 0 _ _ _ ?_
 rotate_left
 ·refine ⟨by omega, ?_, by simp, by simp, by simp, by simp, cc, _, L, KK, m0, 10, p3, by omega, hs0, gk, gs, gn, by simp, by simp, by simp⟩
  repeat (first | exact NQ_ini rfl | refine NQ_put ?_ (by simp))
 intro kk hkk i e rg S' ⟨hi, hq, g1, g3, g4, g5, c, mv, L', K, m, b, p, hb, hs, gk, gs, gn, gr, gr8, gr10⟩ ih
 by_cases hc : i < 3
 ·have hc' : (i : Int) < 3 := by omega
  have w2 : IntKind.i64.wrap ((i : Int) + 1) = ((i + 1 : Nat) : Int) := w64 (by omega)
  obtain ⟨S4, S5, r, c', m', mv', L'', K', q1, q2, q3, q4, q5, q6, q7, _⟩ := p.good (now := 0) (by omega) hs (by omega) (by omega) (by omega) gk gs
  unfold xxB at q2
  simp [-calmR_some, f131_l0, g1, g3, g4, g5, gr, hc', q1, e140, q2, w2]
  refine ih (i + 1) _ _ _ (by omega) (fun _ h => h) ⟨by omega, ?_, by simp [g1], by simp [g3], by simp [g4], by simp, c', mv', L'', K', m', b + 4, q3, by omega, q4, q5, q6, q7.trans gn, by simp, by simp [gr8], by simp [gr10]⟩
  repeat (first | exact NQ_fgt hq | refine NQ_put ?_ (by simp))
 ·have hi' : i = 3 := by omega
  subst hi'
  obtain ⟨S4, S5, r, c', mv', L'', K', dv, s, q1, q2, q3, q4, q5, q6, q7, q8, q9, q10, q11, q12, _⟩ := p.last (now := 0) (by omega) hs (by omega) (by omega) (by omega) gk gs
  unfold xxB at q2
  have e104 := s104 q3.cl q3.cs.z3
  rw [q6] at e104
  have hm := c120 q3.cl (by rw [q11]; simp; omega)
  have hml : c'.marks.length = 3 := by rw [q11]; simp [hl3]
  have e232 := s232 q3.cl
  rw [q12.1 hot] at e232
  obtain ⟨x, r1, r2, _, r3⟩ := iss_at q3.kd
  have his := q3.kd.at_.issued
  have e61 := @s61 s s S5 q9
  rw [T.same_self] at e61
  have e84 := fun S => @none84 S
  have mr := @marksV_reg c'.marks
  have ml := @marksV_len c'.marks
  rw [hml] at ml
  have ml : pev .lenL [marksV c'.marks] = some (.i 3) := ml
  rw [q8, q10, gn] at e104
  unfold n1B at e104
  generalize marksV c'.marks = mV at *
  simp [-calmR_some, f131_l0, g5]
  rw [hkk]
  rw [if_pos rfl] at e104
  simp [-calmR_some, g1, g3, g4, gr, gr8, gr10, q1, e140, q2, e104, e84, his, r1, r2, r3, e61, hm, ml, e232]
  simp
end
def WSt (i : Nat) (c : Cl) (K : Kd) (m : T) : Prop :=
 (∃ nx rest, i = 0 ∧ Ini c K m nx rest ∧ ∃ d ∈ nx :: rest, ¬ gud c K d) ∨ (∃ done nx rest, i = done.length + 1 ∧ Mid c K m done nx rest 0 ∧ ∃ d ∈ nx :: rest, ¬ gud c K d)
theorem WSt.le {i : Nat} {c : Cl} {K : Kd} {m : T} (h : WSt i c K m) : i ≤ 3 := by
 rcases h with ⟨nx, rest, rfl, _⟩ | ⟨done, nx, rest, rfl, hM, _⟩
 ·omega
 ·have := hM.len; omega
theorem gud_same {c c' : Cl} {K K' : Kd} {d : ByteArray} (h1 : c'.key = c.key) (h2 : c'.seed = c.seed) (h3 : K'.u.key = K.u.key) (h4 : K'.u.seed = K.u.seed) : gud c' K' d ↔ gud c K d := by
 unfold gud; rw [h1, h2, h3, h4]
structure Wrs (c : Cl) (K : Kd) (m : T) (i : Nat) (x : T) : Prop where
 mlo : m.lo
 rlo : (K.req m 0).1.lo
 is : (K.req m 0).2.2 = none
 en : (c.take (K.req m 0).1 0 x).1.ended = false
 nx : (c.take (K.req m 0).1 0 x).2.2 ≠ 0 ∨ ((c.take (K.req m 0).1 0 x).2.2 = 0 ∧ WSt (i + 1) (c.take (K.req m 0).1 0 x).1 (K.req m 0).2.1 (c.take (K.req m 0).1 0 x).2.1)
section
variable {c : Cl} {K : Kd} {m x : T} {i : Nat}
theorem WSt.step (h : WSt i c K m) (he : c.ended = false) (hK : 0 ≤ K.n ∧ K.n ≤ 900000) (hx : atT x) : Wrs c K m i x := by
 rcases h with ⟨nx, rest, rfl, hI, hb⟩ | ⟨done, nx, rest, rfl, hM, hb⟩
 ·obtain ⟨h1, h2, h3, h4⟩ := hI.step (x := x) hK hx (now := 0) (by omega)
  by_cases hk : nx = spkB → K.u.key = c.key
  ·obtain ⟨h5, h6, h7, h8⟩ := h3 hk
   refine ⟨hI.lo, h1, h2, by rw [h6]; exact he, .inr ⟨h5, .inr ⟨[], nx, rest, rfl, h8, ?_⟩⟩⟩
   obtain ⟨d, hd, hg⟩ := hb
   refine ⟨d, hd, fun e => hg ?_⟩
   rw [h6, h7] at e
   have o := (@offK_same K nx).2.2.1
   exact (gud_same rfl rfl (by rw [o]) (by rw [o])).1 e
  ·have hk1 : nx = spkB := by
    by_cases h : nx = spkB
    ·exact h
    ·exact absurd (fun e => absurd e h) hk
   have hk2 : K.u.key ≠ c.key := fun e => hk fun _ => e
   have ht := h4 hk1 hk2
   exact ⟨hI.lo, h1, h2, by rw [ht]; exact he, .inl (by rw [ht]; exact (show (6 : Int) ≠ 0 by decide))⟩
 ·obtain ⟨_, _, _, _, _, _, hlo, _⟩ := hM.seen (now := 0) (by omega)
  by_cases hgn : gud c K nx
  ·have hbr : ∃ d ∈ rest, ¬ gud c K d := by
    obtain ⟨d, hd, hg⟩ := hb
    rcases List.mem_cons.1 hd with rfl | hd
    ·exact absurd hgn hg
    ·exact ⟨d, hd, hg⟩
   match rest, hM, hbr with
   | [], hM, hbr => obtain ⟨d, hd, _⟩ := hbr; cases hd
   | nx2 :: rest, hM, hbr =>
     obtain ⟨h1, h2, h3, h4⟩ := hM.step (x := x) (now := 0) (by omega) hgn hK hx (by omega)
     by_cases hk : nx2 = spkB → K.u.key = c.key
     ·obtain ⟨h5, h6, h7, _, h8, h9, h10, h11⟩ := h3 hk
      refine ⟨hlo, h1, h2, h7.trans he, .inr ⟨h5, .inr ⟨done ++ [nx], nx2, rest, by simp, h6, ?_⟩⟩⟩
      obtain ⟨d, hd, hg⟩ := hbr
      exact ⟨d, hd, fun e => hg ((gud_same h9 h8 h10 h11).1 e)⟩
     ·have hk1 : nx2 = spkB := by
       by_cases h : nx2 = spkB
       ·exact h
       ·exact absurd (fun e => absurd e h) hk
      have hk2 : K.u.key ≠ c.key := fun e => hk fun _ => e
      have ht := h4 hk1 hk2
      exact ⟨hlo, h1, h2, by rw [ht]; exact he, .inl (by rw [ht]; exact (show (6 : Int) ≠ 0 by decide))⟩
  ·obtain ⟨h1, h2⟩ := hM.bad (now := 0) (by omega) hgn
   have ht : c.take (K.req m 0).1 0 x = ({ c with on := false }, tNone, 6) := by rw [h1]; exact take_refuse hM.fz.on (by omega)
   refine ⟨hlo, ?_, h2, by rw [ht]; exact he, .inl (by rw [ht]; exact (show (6 : Int) ≠ 0 by decide))⟩
   rw [h1]
   unfold T.lo tRefuse
   rw [pack_bulk, bulkL_cons, bulkL_nil]
   have hnum : (tNum 6).bulk ≤ 25 := by
    show (tWord (itoaB 6)).bulk ≤ _
    rw [word_bulk]; have := itoa_sz (n := 6) (by unfold inI; omega); omega
   have : errB.size = 5 := rfl
   omega
end
section
variable {S : AS}
theorem Pr.wrong {a : Nat} {c : Cl} {mv : AV} {k : Nat} {L : Loc} {K : Kd} {b i : Nat} {m : T} (h : Pr S a c mv k L K [] b) (hb : b ≤ 800) (hs : WSt i c K m) (he : c.ended = false) :
 ∃ S1 S2 r c' m' e mv' L' K', call 137 [.ptr k 0 0, .agg m.cells, .i 0] S = some (.agg r, S1) ∧ call 141 [.ptr a 0 0, .agg r, .i 0, .agg (tAtom xxB).cells] S1 = some (.tup [.agg (T.cells m'), .sc (.int .i64 e)], S2) ∧
  Pr S2 a c' mv' k L' K' [] (b + 4) ∧ c'.ended = false ∧ (e ≠ 0 ∨ (e = 0 ∧ WSt (i + 1) c' K' m')) := by
 have w := hs.step he (by have := h.ks.n; omega) x_at
 obtain ⟨S1, S2, mv', L', R', d1, d2, p, is, G⟩ := h.round (by omega) w.mlo (now := 0) (by omega) x_lo w.rlo
 rw [w.is] at is
 rw [show R' = [] from is] at p
 exact ⟨S1, S2, _, _, _, _, mv', L', _, d1, d2, p, w.en, w.nx⟩
def pwbB : ByteArray := ⟨#[112, 97, 115, 115, 119, 111, 114, 100, 32, 98]⟩
def sdbB : ByteArray := ⟨#[115, 101, 101, 100, 32, 98]⟩
theorem long_ne : tLong (tAtom pwbB) naB ≠ tLong (tAtom pwaB) naB := fun e => by
 have := (tKdf_inj.1 e).1
 have := tAtom_inj.1 this
 revert this; decide
theorem seed_ne : tAtom sdbB ≠ tAtom sdaB := fun e => by
 have := tAtom_inj.1 e
 revert this; decide
def pwW (seed : Bool) : ByteArray := if seed then pwaB else pwbB
def sdW (seed : Bool) : ByteArray := if seed then sdbB else sdaB
theorem wst0 {j : Nat} {seed : Bool} (hb : ∃ d ∈ setL j, seed = decide (d = otpB)) : WSt 0 ((c0 (tAtom (pwW seed)) (tAtom (sdW seed))).start n1B (tAtom subB)) (kd0 (setL j)) (((c0 (tAtom (pwW seed)) (tAtom (sdW seed))).start n1B (tAtom subB)).says tNone tNone) := by
 have hpw : pwW seed ≠ ⟨#[]⟩ ∧ (pwW seed).size ≤ 1000 := by cases seed <;> exact ⟨by decide, by show 10 ≤ _; omega⟩
 have hsd : sdW seed ≠ ⟨#[]⟩ ∧ (sdW seed).size ≤ 1000 := by cases seed <;> exact ⟨by decide, by show 6 ≤ _; omega⟩
 have h := sti0 (K := kd0 (setL j)) (j := j) (nonce := n1B) (sn := subB) (t0 := 0) kd0_KD hpw hsd n1_ok sub_ok
 rcases h with ⟨_, nx, rest, hI, hs⟩ | ⟨done, nx, rest, _, _, hi⟩
 ·refine .inl ⟨nx, rest, rfl, hI, ?_⟩
  obtain ⟨d, hd, e⟩ := hb
  rw [hs] at hd
  refine ⟨d, hd, fun hg => ?_⟩
  unfold gud at hg
  by_cases ho : d = otpB
  ·rw [if_pos ho] at hg
   rw [decide_eq_true ho] at e
   subst e
   exact seed_ne hg
  ·rw [if_neg ho] at hg
   rw [decide_eq_false ho] at e
   subst e
   exact long_ne hg
 ·omega
end
section
variable {S : AS}
end
section
variable {S : AS}
end
theorem NQ_fgt2 {tm tm' rgs : List Nat} {e : Nat → AV} (h : NQ tm rgs e) : NQ tm rgs (fgt tm' e) := by
 intro n
 have := h n
 unfold fgt
 split
 ·simp [okR]
 ·exact this
section
variable {S : AS}
end
section
variable {S : AS}
end
def Bas (c : Cl) : Prop := ∀ nonce sub, c.start nonce sub = (c0 (tAtom pwaB) (tAtom sdaB)).start nonce sub
section
variable {S : AS}
theorem pev_and3' {a : Int} : pev (.bin .and) [.sc (.int .i64 a), .i 3] = some (.sc (.int .i64 (a % 4))) := pev_and_mask (m := 2) (by omega)
theorem pev_and255' {a : Int} : pev (.bin .and) [.sc (.int .i64 a), .i 255] = some (.sc (.int .i64 (a % 256))) := pev_and_mask (m := 8) (by omega)
theorem pev_and20' {a : Int} : pev (.bin .and) [.sc (.int .i64 a), .i 1048575] = some (.sc (.int .i64 (a % 1048576))) := pev_and_mask (m := 20) (by omega)
theorem marksV_at {l : List (ByteArray × ByteArray)} {i : Nat} {q : ByteArray × ByteArray} (h : l[i]? = some q) : pev (.iaddr 2) [marksV l, .sc (.int .i64 (i : Int))] = some (.iptr [.sc (.string q.1), .sc (.string q.2)]) := by
 have hl : i < l.length := (List.getElem?_eq_some_iff.1 h).1
 unfold marksV lstN
 have hne : (Cl.mrow l).isEmpty = false := by cases l with
  | nil => simp at hl
  | cons _ _ => rfl
 rw [hne]
 simp only [Bool.false_eq_true, if_false]
 rw [pev_iaddrL (by omega)]
 simp [Cl.mrow, h]
theorem Pr.off {a : Nat} {c : Cl} {mv : AV} {k : Nat} {L : Loc} {K : Kd} {b j : Nat} (h : Pr S a c mv k L K [] b) (hb : b ≤ 800) (hB : Bas c) (hK : KD K (setL j)) {nonce sn : ByteArray} (hno : nonce ≠ ⟨#[]⟩ ∧ nonce.size ≤ 700) (hsn : sn ≠ ⟨#[]⟩ ∧ sn.size ≤ 1000) {now : Int} (hnow : 0 ≤ now ∧ now ≤ 10000000) :
 ∃ S1 S2 m r c' L' K', call 138 [.ptr a 0 0, .sc (.string nonce), .agg (tAtom sn).cells] S = some (.agg (T.cells m), S1) ∧ call 137 [.ptr k 0 0, .agg (T.cells m), .sc (.int .i64 now)] S1 = some (.agg r, S2) ∧ Pr S2 a c' mv k L' K' [] (b + 4) ∧ Bas c' ∧ KD K' (setL j) := by
 obtain ⟨S1, d1, p1, _⟩ := h.start (nonce := nonce) (sub := tAtom sn) (by omega)
 rw [hB] at d1 p1
 have hs := sti0 (j := j) (t0 := 0) hK pw_ok sd_ok hno hsn
 rcases hs with ⟨_, nx, rest, hI, hs⟩ | ⟨_, _, _, _, _, hi⟩
 ·obtain ⟨S2, L', R', d2, h2, g2, i2⟩ := c137 p1.kd (p1.ks.okk (by omega)) (by simp) hI.lo (now := now) (by omega)
  have hr := hI.req (now := now)
  have hk2 : (K.req (((c0 (tAtom pwaB) (tAtom sdaB)).start nonce (tAtom sn)).says tNone tNone) now).2.1 = K.offK nx := by rw [hr]
  have hi2 : (K.req (((c0 (tAtom pwaB) (tAtom sdaB)).start nonce (tAtom sn)).says tNone tNone) now).2.2 = none := by rw [hr]
  rw [hi2] at i2
  obtain ⟨p2, _⟩ := p1.kdc h2 g2 (b' := b + 4) (by omega) p1.ks.req (by rw [show R' = [] from i2]; simp)
  rw [show R' = [] from i2] at p2
  exact ⟨S1, S2, _, _, _, L', _, d1, d2, p2, fun _ _ => rfl, by rw [hk2]; exact hK.off⟩
 ·omega
theorem off_name {i : Nat} (hi : i ≤ 3) {p : ByteArray} (hp : p.size = 4) : pev (.bin .add) [.sc (.string p), .sc (.string (itoaB (i : Int)))] = some (.sc (.string (p ++ itoaB (i : Int)))) ∧ p ++ itoaB (i : Int) ≠ ⟨#[]⟩ ∧ (p ++ itoaB (i : Int)).size ≤ 30 := by
 have hit := itoaB_le (n := (i : Int)) (by omega) (by omega)
 refine ⟨pev_sadd (by omega), app_nonempty (by omega), by rw [ByteArray.size_append]; omega⟩
def ofB : ByteArray := ⟨#[111, 102, 102, 32]⟩
def suB : ByteArray := ⟨#[115, 117, 98, 32]⟩
def tm28 : List Nat := [44, 45, 46, 47, 48, 49, 50, 51, 52, 53, 54, 55, 56, 57, 58, 59, 60, 61]
set_option maxHeartbeats 8000000 in
set_option maxRecDepth 100000 in
theorem loop28 {a k j : Nat} {off now : Int} {w15 : AV} {ticks : List Int} (hnow : 0 ≤ now ∧ now ≤ 10000000) {ks : List Kn}
 (hk : ∀ (e : Nat → AV) (rg : Nat → Option (List AV)) (S' : AS) (c : Cl) (L : Loc) (K : Kd), e 0 = w15 → e 1 = .sc (.int .i64 now) → e 2 = lstI ticks → e 10 = .ptr a 0 0 → e 12 = .ptr k 0 0 → (∀ n, rg n = none) → Pr S' a c (.lst 0 true []) k L K [] 30 → Bas c → KD K (setL j) → NQ [8, 17, 18, 67, 68, 69, 70, 71, 72, 73, 74, 75, 76, 77, 78, 79, 80, 81, 82, 83, 84, 85, 86, 87, 88, 89, 90, 91, 92, 93, 94, 95, 96, 97, 98] [17] e → Tru (fin [.tmp 8] (unw AA (some (.exit 0, st 196 e rg S')) ks))) :
 ∀ (e : Nat → AV) (rg : Nat → Option (List AV)) (c : Cl) (L : Loc) (K : Kd), e 0 = w15 → e 1 = .sc (.int .i64 now) → e 2 = lstI ticks → e 3 = .sc (.int .i64 off) → e 10 = .ptr a 0 0 → e 12 = .ptr k 0 0 → e 13 = .i 0 → (∀ n, rg n = none) → Pr S a c (.lst 0 true []) k L K [] 10 → Bas c → KD K (setL j) → NQ [8, 17, 18, 67, 68, 69, 70, 71, 72, 73, 74, 75, 76, 77, 78, 79, 80, 81, 82, 83, 84, 85, 86, 87, 88, 89, 90, 91, 92, 93, 94, 95, 96, 97, 98] [17] e →
  Tru (fin [.tmp 8] (exec AA (.loop tm28 [] f28_l2) (st 196 e rg S) ks)) := by
 intro e rg c L K g0 g1 g2 g3 g10 g12 g13 hr p hB hK hq
 have e140 := fun S s => @s140 S s
 have h0 : 0 ≤ off % 4 ∧ off % 4 < 4 := ⟨Int.emod_nonneg _ (by omega), Int.emod_lt_of_pos _ (by omega)⟩
 have a3 := @pev_and3' off
 generalize off % 4 = o at *
 refine loop_gen (α := Nat) (R := fun _ r => Tru r) (fun i e rg S' => (i : Int) ≤ o ∧ NQ [8, 17, 18, 67, 68, 69, 70, 71, 72, 73, 74, 75, 76, 77, 78, 79, 80, 81, 82, 83, 84, 85, 86, 87, 88, 89, 90, 91, 92, 93, 94, 95, 96, 97, 98] [17] e ∧ e 0 = w15 ∧ e 1 = .sc (.int .i64 now) ∧ e 2 = lstI ticks ∧ e 3 = .sc (.int .i64 off) ∧ e 10 = .ptr a 0 0 ∧ e 12 = .ptr k 0 0 ∧ e 13 = .sc (.int .i64 (i : Nat)) ∧ (∀ n, rg n = none) ∧ ∃ c L K b, Pr S' a c (.lst 0 true []) k L K [] b ∧ b ≤ 10 + 4 * i ∧ Bas c ∧ KD K (setL j)) (fun i => o.toNat - i) ?_ 0 _ _ _ ?_
 rotate_left
 ·exact ⟨by omega, hq, g0, g1, g2, g3, g10, g12, g13, hr, c, L, K, 10, p, by omega, hB, hK⟩
 intro kk hkk i e rg S' ⟨hi, hq, g0, g1, g2, g3, g10, g12, g13, hr, c, L, K, b, p, hb, hB, hK⟩ ih
 by_cases hc : (i : Int) < o
 ·have w2 : IntKind.i64.wrap ((i : Int) + 1) = ((i + 1 : Nat) : Int) := w64 (by omega)
  obtain ⟨pa, na, za⟩ := off_name (i := i) (by omega) (p := ofB) rfl
  obtain ⟨pb, nb, zb⟩ := off_name (i := i) (by omega) (p := suB) rfl
  have e139 := fun S => @s139 S (i : Int) (by omega) (by omega)
  obtain ⟨S4, S5, m, r, c', L', K', q1, q2, q3, q4, q5⟩ := p.off (by omega) hB hK ⟨na, by omega⟩ ⟨nb, by omega⟩ hnow
  unfold ofB at pa q1
  unfold suB at pb q1
  simp [tm28, f28_l2, g1, g3, g10, g12, g13, a3, hc, e139, pa, pb, e140, q1, q2, w2]
  refine ih (i + 1) _ _ _ (by omega) (fun _ h => h) ⟨by omega, ?_, by simp [g0], by simp [g1], by simp [g2], by simp [g3], by simp [g10], by simp [g12], by simp, hr, c', L', K', b + 4, q3, by omega, q4, q5⟩
  repeat (first | exact hq | refine NQ_put ?_ (by simp) | refine NQ_fgt2 ?_)
 ·simp [tm28, f28_l2, g1, g3, g10, g12, g13, a3, hc]
  rw [hkk]
  simp
  refine hk _ _ _ c L K (by simp [g0]) (by simp [g1]) (by simp [g2]) (by simp [g10]) (by simp [g12]) hr (p.mono (by omega)) hB hK ?_
  repeat (first | exact hq | refine NQ_put ?_ (by simp) | refine NQ_fgt2 ?_)
end
section
variable {S : AS}
def tm28a : List Nat := [8, 17, 18, 67, 68, 69, 70, 71, 72, 73, 74, 75, 76, 77, 78, 79, 80, 81, 82, 83, 84, 85, 86, 87, 88, 89, 90, 91, 92, 93, 94, 95, 96, 97, 98]
set_option maxHeartbeats 16000000 in
set_option maxRecDepth 100000 in
theorem law28 {n now off : Int} {ticks : List Int} (hS : S.ro ≤ S.n) : Tru (call 28 [.sc (.int .i64 n), .sc (.int .i64 now), lstI ticks, .sc (.int .i64 off)] S) := by
 rw [call_keep a28 (by simp) rfl]
 have e131 := fun S => @s131 S
 have e134 := fun S => @s134 S n
 obtain ⟨j, hj⟩ : ∃ j, j = (n % 8).toNat := ⟨_, rfl⟩
 rw [← hj] at e134
 obtain ⟨S1, S2, bp, k, L, d1, d2, p, _⟩ := beg hS (j := j)
 have e140 := fun S s => @s140 S s
 have a20 := @pev_and20' now
 have hn0 : 0 ≤ now % 1048576 ∧ now % 1048576 < 1048576 := ⟨Int.emod_nonneg _ (by omega), Int.emod_lt_of_pos _ (by omega)⟩
 generalize now % 1048576 = nw at *
 have hl3 := (@setL_ok j).2.1
 simp only [f28]
 simp [f28b, e131, d1, e134, d2, a20]
 refine loop28 (w15 := .sc (.int .i64 n)) (j := j) (now := nw) (ticks := ticks) (a := S.n) (k := k) (off := off) (by omega) ?_ _ _ _ L (kd0 (setL j)) (by simp) (by simp) (by simp) (by simp) (by simp) (by simp) (by simp) (by simp) p (fun _ _ => rfl) kd0_KD ?_
 rotate_left
 ·repeat (first | exact NQ_ini rfl | refine NQ_put ?_ (by simp) | refine NQ_fgt2 ?_)
 intro e rg S' c L K g0 g1 g2 g10 g12 hr p hB hK hq
 obtain ⟨S3, d3, p3, _⟩ := p.start (nonce := n1B) (sub := tAtom subB) (by show 1 ≤ _; omega)
 rw [hB] at d3 p3
 have hs0 := fun t0 => sti0 (j := j) (nonce := n1B) (sn := subB) (t0 := t0) hK pw_ok sd_ok n1_ok sub_ok
 have gk : ((c0 (tAtom pwaB) (tAtom sdaB)).start n1B (tAtom subB)).key = K.u.key := by rw [hK.u]; rfl
 have gs : ((c0 (tAtom pwaB) (tAtom sdaB)).start n1B (tAtom subB)).seed = K.u.seed := by rw [hK.u]; rfl
 have gn : ((c0 (tAtom pwaB) (tAtom sdaB)).start n1B (tAtom subB)).nonce = n1B := rfl
 generalize ((c0 (tAtom pwaB) (tAtom sdaB)).start n1B (tAtom subB)).says tNone tNone = m0 at *
 generalize (c0 (tAtom pwaB) (tAtom sdaB)).start n1B (tAtom subB) = cc at *
 generalize setL j = st at *
 unfold n1B subB at d3
 have r14 := hr 14
 have r17 := hr 17
 have r19 := hr 19
 simp [g0, g1, g2, g10, g12, r14, e140, d3, e134]
 refine loop_genR (α := Nat) (R := fun _ r => Tru r) (fun i e rg S' => i ≤ st.length + 1 ∧ NQ tm28a [17] e ∧ (∃ t0 : Int, e 1 = .sc (.int .i64 t0) ∧ 0 ≤ t0 ∧ t0 ≤ 1048576 + 4 * (i : Int) ∧
  ((i ≤ st.length ∧ ∃ c mv L K m b, Pr S' S.n c mv k L K [] b ∧ b ≤ 30 + 4 * i ∧ Sti st i c K m t0 ∧ c.key = K.u.key ∧ c.seed = K.u.seed ∧ c.nonce = n1B ∧ rg 14 = some m.cells) ∨
   (i = st.length + 1 ∧ rg 14 = some tNone.cells ∧ ∃ c mv L K nm dv s b, Pr S' S.n c mv k L K [issR nm n1B (.arr dv 1 0 st.length none) s] b ∧ b ≤ 800 ∧ S'.heap dv = some (.rows 1 (sRow st)) ∧ c.ended = true ∧ c.session = s ∧ s.fits ∧ c.nonce = n1B ∧ c.marks = st.map (fun d => (d, n1B))))) ∧ e 2 = lstI ticks ∧ e 10 = .ptr S.n 0 0 ∧ e 12 = .ptr k 0 0 ∧ e 14 = .reg 14 0 ∧ e 15 = lstS st ∧ e 16 = .sc (.int .i64 (i : Nat)) ∧ rg 19 = none) (fun i => st.length + 1 - i) (fun _ _ _ _ h => h.2.1) ?_ 0 _ _ _ ?_
 rotate_left
 ·refine ⟨by omega, ?_, ⟨nw, by simp [g1], by omega, by omega, .inl ⟨by omega, cc, _, L, K, m0, 30, p3, by omega, hs0 nw, gk, gs, gn, by simp⟩⟩, by simp [g2], by simp [g10], by simp [g12], by simp, by simp, by simp, by simp [r19]⟩
  repeat (first | exact hq | refine NQ_put ?_ (by simp [tm28a]) | refine NQ_fgt2 ?_)
 intro kk hkk i e rg S' ⟨hi, hq, ⟨t0, g1, ht0, ht1, hst⟩, g2, g10, g12, g14, g15, g16, r19⟩ ih
 have w2 : IntKind.i64.wrap ((i : Int) + 1) = ((i + 1 : Nat) : Int) := w64 (by omega)
 rcases hst with ⟨hle, c, mv, L', K', m, b, p, hb, hs, gk, gs, gn, gr⟩ | ⟨hie, gr, c, mv, L', K', nm, dv, s, b, p, hb, hdv, hen, hss, hf, gn, hm⟩
 ·have hc : (i : Int) ≤ (st.length : Int) := by omega
  obtain ⟨t1, ht1', hstep⟩ : ∃ t1 : Int, (t0 ≤ t1 ∧ t1 ≤ t0 + 4) ∧ ((i < ticks.length ∧ ∃ q : Int, ticks[i]? = some q ∧ ∃ r : Int, pev (.bin .and) [.sc (.int .i64 q), .i 255] = some (.sc (.int .i64 r)) ∧ ∃ u : Int, pev (.bin .rem) [.sc (.int .i64 r), .i 5] = some (.sc (.int .i64 u)) ∧ IntKind.i64.wrap (t0 + u) = t1) ∨ (¬ i < ticks.length ∧ t1 = t0)) := by
   by_cases ht : i < ticks.length
   ·obtain ⟨q, hq⟩ := get_of_lt ht
    have h0 : 0 ≤ q % 256 ∧ q % 256 < 256 := ⟨Int.emod_nonneg _ (by omega), Int.emod_lt_of_pos _ (by omega)⟩
    have h1 : (q % 256).tmod 5 = (q % 256) % 5 := Int.tmod_eq_emod_of_nonneg h0.1
    have h2 : 0 ≤ (q % 256) % 5 ∧ (q % 256) % 5 < 5 := ⟨Int.emod_nonneg _ (by omega), Int.emod_lt_of_pos _ (by omega)⟩
    refine ⟨t0 + (q % 256) % 5, by omega, .inl ⟨ht, q, hq, _, pev_and255', (q % 256) % 5, by rw [← h1]; rfl, w64 (by omega)⟩⟩
   ·exact ⟨t0, by omega, .inr ⟨ht, rfl⟩⟩
  have hg : ∃ S4 S5 r m' rest, call 137 [.ptr k 0 0, .agg m.cells, .sc (.int .i64 t1)] S' = some (.agg r, S4) ∧ call 141 [.ptr S.n 0 0, .agg r, .sc (.int .i64 t1), .agg (tAtom ⟨#[120]⟩).cells] S4 = some (.tup [.agg (T.cells m'), .i 0], S5) ∧ rest = () ∧
   ((i + 1 ≤ st.length ∧ ∃ c mv L K b, Pr S5 S.n c mv k L K [] b ∧ b ≤ 30 + 4 * (i + 1) ∧ Sti st (i + 1) c K m' t1 ∧ c.key = K.u.key ∧ c.seed = K.u.seed ∧ c.nonce = n1B) ∨
    (i + 1 = st.length + 1 ∧ m' = tNone ∧ ∃ c mv L K nm dv s b, Pr S5 S.n c mv k L K [issR nm n1B (.arr dv 1 0 st.length none) s] b ∧ b ≤ 800 ∧ S5.heap dv = some (.rows 1 (sRow st)) ∧ c.ended = true ∧ c.session = s ∧ s.fits ∧ c.nonce = n1B ∧ c.marks = st.map (fun d => (d, n1B)))) := by
   by_cases hlt : i < st.length
   ·obtain ⟨S4, S5, r, c', m', mv', L'', K'', q1, q2, q3, q4, q5, q6, q7, _⟩ := p.good (now := t1) (by omega) hs hlt (by omega) (by omega) gk gs
    exact ⟨S4, S5, r, m', (), q1, q2, rfl, .inl ⟨by omega, c', mv', L'', K'', b + 4, q3, by omega, q4, q5, q6, q7.trans gn⟩⟩
   ·obtain ⟨S4, S5, r, c', mv', L'', K'', dv, s, q1, q2, q3, q4, q5, q6, q7, q8, q9, q10, q11, q12, _⟩ := p.last (now := t1) (by omega) hs (by omega) (by omega) (by omega) gk gs
    rw [gn] at q3 q10 q11
    exact ⟨S4, S5, r, tNone, (), q1, q2, rfl, .inr ⟨by omega, rfl, c', mv', L'', K'', c.name, dv, s, b + 4, q3, by omega, q4, q6, q8, q9, q10, q11⟩⟩
  obtain ⟨S4, S5, r, m', _, q1, q2, _, hnext⟩ := hg
  rcases hstep with ⟨ht, q, hqq, r1, hr1, u, hu, hw⟩ | ⟨ht, rfl⟩
  ·have htI : (i : Int) < (ticks.length : Int) := by omega
   have hat := lstI_at hqq
   simp [tm28a, f28_l1, g1, g2, g10, g12, g14, g15, g16, gr, hle, hc, ht, htI, hat, hr1, hu, hw, q1, e140, q2, w2]
   refine ih (i + 1) _ _ _ (by omega) (fun _ h => h) ⟨by omega, ?_, ⟨t1, by simp, by omega, by omega, ?_⟩, by simp [g2], by simp [g10], by simp [g12], by simp [g14], by simp [g15], by simp, by simp [r19]⟩
   ·repeat (first | exact hq | refine NQ_put ?_ (by simp [tm28a]) | refine NQ_fgt2 ?_)
   ·rcases hnext with ⟨h1, c, mv, L, K, b, h2, h3, h4, h5, h6, h7⟩ | ⟨h1, rfl, h2⟩
    ·exact .inl ⟨h1, c, mv, L, K, m', b, h2, h3, h4, h5, h6, h7, by simp⟩
    ·exact .inr ⟨h1, by simp, h2⟩
  ·have htI : ¬ (i : Int) < (ticks.length : Int) := by omega
   simp [tm28a, f28_l1, g1, g2, g10, g12, g14, g15, g16, gr, hle, hc, ht, htI, q1, e140, q2, w2]
   refine ih (i + 1) _ _ _ (by omega) (fun _ h => h) ⟨by omega, ?_, ⟨t1, by simp [g1], by omega, by omega, ?_⟩, by simp [g2], by simp [g10], by simp [g12], by simp [g14], by simp [g15], by simp, by simp [r19]⟩
   ·repeat (first | exact hq | refine NQ_put ?_ (by simp [tm28a]) | refine NQ_fgt2 ?_)
   ·rcases hnext with ⟨h1, c, mv, L, K, b, h2, h3, h4, h5, h6, h7⟩ | ⟨h1, rfl, h2⟩
    ·exact .inl ⟨h1, c, mv, L, K, m', b, h2, h3, h4, h5, h6, h7, by simp⟩
    ·exact .inr ⟨h1, by simp, h2⟩
 ·have hc : ¬ (i : Int) ≤ (st.length : Int) := by omega
  have hc' : ¬ i ≤ st.length := by omega
  have e104 := s104 p.cl p.cs.z3
  rw [hen, if_pos rfl, hss, gn] at e104
  unfold n1B at e104
  have hmk := c120 p.cl (by rw [hm]; simp; omega)
  have hml : c.marks.length = st.length := by rw [hm]; simp
  obtain ⟨x, r1, r2, r3, r4⟩ := iss_at p.kd
  have his := p.kd.at_.issued
  have e61 := fun S => @s61 s s S hf
  rw [T.same_self] at e61
  have e84 := fun S => @none84 S
  have mr := @marksV_reg c.marks
  have ml := @marksV_len c.marks
  rw [hml] at ml
  have mat : ∀ (i : Nat) (d : ByteArray), st[i]? = some d → pev (.iaddr 2) [marksV c.marks, .sc (.int .i64 (i : Int))] = some (.iptr [.sc (.string d), .sc (.string ⟨#[110]⟩)]) := by
   intro i d hd
   have := @marksV_at c.marks i (d, n1B) (by rw [hm]; simp [hd])
   exact this
  generalize marksV c.marks = mV at *
  simp [tm28a, f28_l1, g1, g2, g10, g12, g14, g15, g16, gr, hc, hc']
  rw [hkk]
  simp [g10, g12, g14, g15, gr, r19, e104, hmk, mr, ml, his, r1, r2, r3, r4, e61]
  refine loop_gen (α := Nat) (R := fun _ r => Tru r) (fun i e rg S'' => i ≤ st.length ∧ S'' = S' ∧ e 12 = .ptr k 0 0 ∧ e 14 = .reg 14 0 ∧ rg 14 = some tNone.cells ∧ e 15 = lstS st ∧ e 22 = mV ∧ e 23 = .sc (.int .i64 (i : Nat))) (fun i => st.length - i) ?_ 0 _ _ _ ?_
  rotate_left
  ·exact ⟨by omega, rfl, by simp [g12], by simp [g14], by simp [gr], by simp [g15], by simp, by simp⟩
  intro kk2 hkk2 i2 e rg S'' ⟨hi2, hS'', g12, g14, gr, g15, g22, g23⟩ ih2
  subst hS''
  have w3 : IntKind.i64.wrap ((i2 : Int) + 1) = ((i2 + 1 : Nat) : Int) := w64 (by omega)
  by_cases hc2 : i2 < st.length
  ·obtain ⟨d, hd⟩ := get_of_lt hc2
   have hc2I : (i2 : Int) < (st.length : Int) := by omega
   have m1 := mat i2 d hd
   have m2 := lstS_at hd
   have m3 : pev (.iaddr 1) [.arr dv 1 0 st.length none, .sc (.int .i64 (i2 : Int))] = some (.ptr dv i2 0) := by
    rw [pev_iaddrA (by omega) (by omega)]; simp
   have m4 : ∀ dd rg, opev (.ld none 1 false) dd rg S'' [.ptr dv i2 0] = some (.sc (.string d), none, S'') := fun dd rg => by
    rw [opev_ld_ptr hdv]; simp [sRow, hd]
   simp [f28_l0, g12, g14, g15, g22, g23, mr, hc2, hc2I, m1, m2, m3, m4, his, r1, r3, w3]
   exact ih2 (i2 + 1) _ _ _ (by omega) (fun _ h => h) ⟨by omega, rfl, by simp [g12], by simp [g14], by simp [gr], by simp [g15], by simp [g22], by simp⟩
  ·have hc2I : ¬ (i2 : Int) < (st.length : Int) := by omega
   simp [f28_l0, g12, g14, g15, g22, g23, hc2, hc2I]
   rw [hkk2]
   simp [g14, gr, e84]
end
end Abs
