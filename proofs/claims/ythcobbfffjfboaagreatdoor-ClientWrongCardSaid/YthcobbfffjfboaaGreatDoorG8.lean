/- The Client laws: a client and the KDC are made; shown. -/
import Derived.Test.YthcobbfffjfboaaGreatDoorG7
set_option linter.unusedVariables false
set_option linter.unusedSimpArgs false
set_option linter.unusedSectionVars false
namespace Abs
open Go
def subB : ByteArray := ⟨#[115, 117, 98]⟩
def xxB : ByteArray := ⟨#[120]⟩
def n1B : ByteArray := ⟨#[110]⟩
theorem c0_sz {pw sd : T} : (c0 pw sd).sz 10 := ⟨fun e => (by cases e), fun e => (by cases e), fun e => (by cases e), fun e => (by cases e), by show 0 ≤ _; omega, by show 1 ≤ _; omega, by show (0 : Int) ≤ 2 ∧ (2 : Int) ≤ 10; omega, by show 0 ≤ _; omega⟩
theorem atom_lo {n : ByteArray} (h : n.size ≤ 1000000) : (tAtom n).lo := by show (tAtom n).bulk ≤ _; rw [atom_bulk]; omega
theorem kd0_sz {j : Nat} : (kd0 (setL j)).sz 10 := by
 obtain ⟨h1, h2, h3, h4⟩ := @setL_ok j
 refine ⟨atom_lo (by show 6 ≤ _; omega), h1, by show (setL j).length ≤ 1000; omega, fun s hs => ?_, by show 1 ≤ _; omega, by show (0 : Int) ≤ 10; omega, by show (0 : Int) ≤ 0 ∧ (0 : Int) ≤ 10; omega, by show (0 : Int) ≤ 0 ∧ (0 : Int) ≤ 10; omega, by show 0 ≤ 10; omega⟩
 rcases h3 s hs with rfl | rfl | rfl
 ·show 9 ≤ _; omega
 ·show 3 ≤ _; omega
 ·show 5 ≤ _; omega
section
variable {S : AS}
theorem pr_of {S1 S2 : AS} {a : Nat} {c : Cl} {k : Nat} {L : Loc} {j : Nat} {o : Nat → Prop} (hcl : IsCl S1 a c (.lst 0 true [])) (hkd : IsKd S2 k L (kd0 (setL j)) []) (g1 : Chg S S1 (fun _ => False) o) (ho : ∀ x, ownC a (.lst 0 true []) x → o x) (g2 : Chg S1 S2 (fun _ => False) (ownK k L)) (hc : c.sz 10) :
 Pr S2 a c (.lst 0 true []) k L (kd0 (setL j)) [] 10 ∧ Chg S S2 (fun _ => False) (Pr.own a (.lst 0 true []) k L) := by
 have hcl2 : IsCl S2 a c (.lst 0 true []) := hcl.keep g2.1 g2.2.1 fun x hx _ => (g2.2.2 x hx fun e => e).1
 refine ⟨⟨hcl2, hkd, fun x hx hk => (g2.2.2 x (hcl.own_lt hx) fun e => e).2 hk, hc, kd0_sz, by simp⟩, g2.1.trans g1.1, Nat.le_trans g1.2.1 g2.2.1, fun x hx _ => ⟨?_, ?_⟩⟩
 ·exact (g2.2.2 x (Nat.lt_of_lt_of_le hx g1.2.1) fun e => e).1.trans (g1.2.2 x hx fun e => e).1
 ·rintro (e | e)
  ·exact (g1.2.2 x hx fun e => e).2 (ho x e)
  ·exact (g2.2.2 x (Nat.lt_of_lt_of_le hx g1.2.1) fun e => e).2 e
theorem beg (hS : S.ro ≤ S.n) {j : Nat} : ∃ S1 S2 b k L, call 132 [] S = some (.tup [.ptr S.n 0 0, .ptr b 0 0], S1) ∧ call 133 [lstS (setL j)] S1 = some (.ptr k 0 0, S2) ∧
 Pr S2 S.n (c0 (tAtom pwaB) (tAtom sdaB)) (.lst 0 true []) k L (kd0 (setL j)) [] 10 ∧ Chg S S2 (fun _ => False) (Pr.own S.n (.lst 0 true []) k L) := by
 obtain ⟨S1, b, d1, h1, hb, hb1, hb2, g1⟩ := c132 (S := S) hS
 have hS1 : S1.ro ≤ S1.n := by have := g1.1; have := g1.2.1; omega
 obtain ⟨S2, k, L, d2, h2, g2⟩ := c133 (S := S1) (j := j) hS1
 obtain ⟨p, g⟩ := pr_of h1 h2 g1 (fun x hx => by rcases hx with rfl | ⟨a, b, c, d, e⟩; exact .inl rfl; cases e) g2 c0_sz
 exact ⟨S1, S2, b, k, L, d1, d2, p, g⟩
theorem Pr.start {a : Nat} {c : Cl} {mv : AV} {k : Nat} {L : Loc} {K : Kd} {R : List (List AV)} {b : Nat} (h : Pr S a c mv k L K R b) {nonce : ByteArray} {sub : T} (hn : nonce.size ≤ 1099511627776) :
 ∃ S', call 138 [.ptr a 0 0, .sc (.string nonce), .agg sub.cells] S = some (.agg ((c.start nonce sub).says tNone tNone).cells, S') ∧ Pr S' a (c.start nonce sub) mv k L K R b ∧ Chg S S' (Pr.own a mv k L) (Pr.own a mv k L) := by
 obtain ⟨S', d, h', g⟩ := c138 (nonce := nonce) (sub := sub) h.cl (by omega) (by have := h.cs.name; omega)
 obtain ⟨p, g'⟩ := h.client h' g (Nat.le_refl b) (h.cs.start hn)
 exact ⟨S', d, p, g'⟩
theorem x_at : atT (tAtom xxB) := ⟨xxB, rfl, by decide, by show 1 ≤ _; omega⟩
theorem x_lo : (tAtom xxB).lo := atom_lo (by show 1 ≤ _; omega)
theorem pw_ok : pwaB ≠ ⟨#[]⟩ ∧ pwaB.size ≤ 1000 := ⟨by decide, by show 10 ≤ _; omega⟩
theorem sd_ok : sdaB ≠ ⟨#[]⟩ ∧ sdaB.size ≤ 1000 := ⟨by decide, by show 6 ≤ _; omega⟩
theorem sub_ok : subB ≠ ⟨#[]⟩ ∧ subB.size ≤ 1000 := ⟨by decide, by show 3 ≤ _; omega⟩
theorem n1_ok : n1B ≠ ⟨#[]⟩ ∧ n1B.size ≤ 700 := ⟨by decide, by show 1 ≤ _; omega⟩
theorem setL_nd {j : Nat} : (setL j).Nodup := by
 have n1 : chalB ≠ otpB := by decide
 have n2 : chalB ≠ spkB := by decide
 have n3 : otpB ≠ spkB := by decide
 match j with
 | 0 | 1 | 2 => simp [setL]
 | 3 => simp [setL, n1]
 | 4 => simp [setL, n3]
 | 5 => simp [setL, n2.symm]
 | 6 => simp [setL, n1, n2, n3]
 | _ + 7 => simp [setL, n3.symm, n2.symm, n1.symm]
theorem setL_cons (j : Nat) : ∃ nx rest, setL j = nx :: rest := by
 match h : setL j with
 | [] => have := (@setL_ok j).1; rw [h] at this; simp at this
 | nx :: rest => exact ⟨nx, rest, rfl⟩
theorem sti0 {K : Kd} {j : Nat} {pw sd nonce sn : ByteArray} {t0 : Int} (h : KD K (setL j)) (hpw : pw ≠ ⟨#[]⟩ ∧ pw.size ≤ 1000) (hsd : sd ≠ ⟨#[]⟩ ∧ sd.size ≤ 1000) (hno : nonce ≠ ⟨#[]⟩ ∧ nonce.size ≤ 700) (hsn : sn ≠ ⟨#[]⟩ ∧ sn.size ≤ 1000) :
 Sti (setL j) 0 ((c0 (tAtom pw) (tAtom sd)).start nonce (tAtom sn)) K (((c0 (tAtom pw) (tAtom sd)).start nonce (tAtom sn)).says tNone tNone) t0 := by
 obtain ⟨nx, rest, hs⟩ := setL_cons j
 obtain ⟨h1, h2, h3, h4⟩ := @setL_ok j
 have hnd := @setL_nd j
 rw [hs] at h h2 h3 hnd ⊢
 exact .inl ⟨rfl, nx, rest, ini_of h hpw hsd hno hsn h3 hnd (by simp at h2; omega), rfl⟩
theorem Pr.good {a : Nat} {c : Cl} {mv : AV} {k : Nat} {L : Loc} {K : Kd} {R : List (List AV)} {b i : Nat} {set : List ByteArray} {m : T} {t0 now : Int} (h : Pr S a c mv k L K R b) (hb : b ≤ 800) (hs : Sti set i c K m t0) (hi : i < set.length) (hn : t0 ≤ now ∧ now ≤ t0 + 5) (h0 : 0 ≤ now ∧ now ≤ 10000000) (gk : c.key = K.u.key) (gs : c.seed = K.u.seed) :
 ∃ S1 S2 r c' m' mv' L' K', call 137 [.ptr k 0 0, .agg m.cells, .sc (.int .i64 now)] S = some (.agg r, S1) ∧ call 141 [.ptr a 0 0, .agg r, .sc (.int .i64 now), .agg (tAtom xxB).cells] S1 = some (.tup [.agg (T.cells m'), .sc (.int .i64 0)], S2) ∧
  Pr S2 a c' mv' k L' K' R (b + 4) ∧ Sti set (i + 1) c' K' m' now ∧ c'.key = K'.u.key ∧ c'.seed = K'.u.seed ∧ c'.nonce = c.nonce ∧ Chg S S2 (Pr.own a mv k L) (Pr.own a mv' k L') := by
 obtain ⟨rd, hiss, hs', g1, g2, g3⟩ := hs.step (x := tAtom xxB) hi hn h0 gk gs (by have := h.ks.n; omega) x_at
 obtain ⟨S1, S2, mv', L', R', d1, d2, p, is, G⟩ := h.round (by omega) rd.mlo (now := now) (by omega) x_lo rd.rlo
 rw [rd.e] at d2
 rw [hiss] at is
 rw [show R' = R from is] at p
 exact ⟨S1, S2, _, _, _, mv', L', _, d1, d2, p, hs', g1, g2, g3, G⟩
theorem Pr.last {a : Nat} {c : Cl} {mv : AV} {k : Nat} {L : Loc} {K : Kd} {R : List (List AV)} {b i : Nat} {set : List ByteArray} {m : T} {t0 now : Int} (h : Pr S a c mv k L K R b) (hb : b ≤ 800) (hs : Sti set i c K m t0) (hi : i = set.length) (hn : t0 ≤ now ∧ now ≤ t0 + 5) (h0 : 0 ≤ now ∧ now ≤ 10000000) (gk : c.key = K.u.key) (gs : c.seed = K.u.seed) :
 ∃ S1 S2 r c' mv' L' K' dv s, call 137 [.ptr k 0 0, .agg m.cells, .sc (.int .i64 now)] S = some (.agg r, S1) ∧ call 141 [.ptr a 0 0, .agg r, .sc (.int .i64 now), .agg (tAtom xxB).cells] S1 = some (.tup [.agg tNone.cells, .sc (.int .i64 0)], S2) ∧
  Pr S2 a c' mv' k L' K' (R ++ [issR c.name c.nonce (.arr dv 1 0 set.length none) s]) (b + 4) ∧ S2.heap dv = some (.rows 1 (sRow set)) ∧ dv < S2.n ∧ c'.ended = true ∧ c'.on = false ∧ c'.session = s ∧ s.fits ∧ c'.nonce = c.nonce ∧ c'.marks = set.map (fun d => (d, c.nonce)) ∧ CtOf c' set ∧ Chg S S2 (Pr.own a mv k L) (Pr.own a mv' k L') := by
 obtain ⟨rd, hiss, ht, hm, hc⟩ := hs.last (x := tAtom xxB) hi hn gk gs (by have := h.ks.n; omega)
 obtain ⟨S1, S2, mv', L', R', d1, d2, p, is, G⟩ := h.round (by omega) rd.mlo (now := now) (by omega) x_lo rd.rlo
 rw [hiss] at is
 obtain ⟨id, e1, e2, e3, e4, e5⟩ := is
 rw [e1] at p
 rw [ht] at d2 p
 exact ⟨S1, S2, _, _, mv', L', _, id, drawT (K.n + 1), d1, d2, p, e2, e4, rfl, rfl, rfl, T.fits_bulk (draw_lo (by have := h.ks.n; omega) (by have := h.ks.n; omega)), rfl, hm, hc, G⟩
end
section
variable {S : AS}
theorem GV.at_ {S : AS} {sz : Nat} {v : AV} {R : List (List AV)} (h : GV S sz v R) {i : Nat} (hi : i < R.length) : ∃ id, IsArr v id ∧ pev (.iaddr sz) [v, .sc (.int .i64 (i : Int))] = some (.ptr id i 0) ∧ S.heap id = some (.rows sz R) ∧ S.ro ≤ id ∧ id < S.n := by
 rcases h with ⟨rfl, _⟩ | ⟨id, rfl, h1, h2, h3⟩
 ·simp at hi
 ·exact ⟨id, ⟨_, _, _, _, rfl⟩, by rw [pev_iaddrA (by omega) (by omega)]; simp, h1, h2, h3⟩
theorem iss_at {k : Nat} {L : Loc} {K : Kd} {cl no : ByteArray} {dv : AV} {s : T} (h : IsKd S k L K [issR cl no dv s]) : ∃ x, pev (.iaddr 6) [L.iv, .i 0] = some (.ptr x 0 0) ∧ (∀ d rg, opev (.ld none 3 true) d rg S [.ptr x 0 3] = some (.agg s.cells, none, S)) ∧ (∀ d rg, opev (.ld none 1 false) d rg S [.ptr x 0 2] = some (dv, none, S)) ∧ pev .lenL [L.iv] = some (.i 1) := by
 obtain ⟨x, _, h1, h2, _, _⟩ := h.gv.at_ (i := 0) (by simp)
 refine ⟨x, h1, fun d rg => ?_, fun d rg => ?_, h.gv.len⟩
 ·rw [opev_ld_ptr h2, ← tri]; unfold issR; rw [cells_T]; rfl
 ·rw [opev_ld_ptr h2]; unfold issR; rw [cells_T]; rfl
theorem none84 : call 84 [.agg tNone.cells] S = some (.sc (.bool true), S) := by rw [s84, isNone_none]
theorem marksV_len {l : List (ByteArray × ByteArray)} : pev .lenL [marksV l] = some (.sc (.int .i64 (l.length : Nat))) := by
 unfold marksV; rw [pev_lenLN]; simp [Cl.mrow]
theorem marksV_reg {l : List (ByteArray × ByteArray)} : (marksV l).isReg = false := rfl
set_option maxHeartbeats 8000000 in
set_option maxRecDepth 100000 in
theorem s131 : call 131 [] S = some (.sc (.bool true), S) := by
 rw [call_calm a131 rfl rfl rfl]
 obtain ⟨S1, S2, bp, k, L, d1, d2, p, _⟩ := beg (S := { S with ro := S.n }) (Nat.le_refl _) (j := 7)
 obtain ⟨S3, d3, p3, _⟩ := p.start (nonce := n1B) (sub := tAtom subB) (by show 1 ≤ _; omega)
 have hs0 := sti0 (K := kd0 (setL 7)) (j := 7) (nonce := n1B) (sn := subB) (t0 := 0) kd0_KD pw_ok sd_ok n1_ok sub_ok
 have e134 : ∀ S, call 134 [.i 7] S = some (lstS (setL 7), S) := fun S => s134
 have e140 := fun S s => @s140 S s
 have hcl := (Nat.le_refl 0)
 have gk : ((c0 (tAtom pwaB) (tAtom sdaB)).start n1B (tAtom subB)).key = (kd0 (setL 7)).u.key := rfl
 have gs : ((c0 (tAtom pwaB) (tAtom sdaB)).start n1B (tAtom subB)).seed = (kd0 (setL 7)).u.seed := rfl
 have gn : ((c0 (tAtom pwaB) (tAtom sdaB)).start n1B (tAtom subB)).nonce = n1B := rfl
 generalize ((c0 (tAtom pwaB) (tAtom sdaB)).start n1B (tAtom subB)).says tNone tNone = m0 at *
 generalize (c0 (tAtom pwaB) (tAtom sdaB)).start n1B (tAtom subB) = cc at *
 have hl3 : (setL 7).length = 3 := rfl
 have hot : otpB ∈ setL 7 := by simp [setL]
 generalize kd0 (setL 7) = KK at *
 generalize setL 7 = st7 at *
 unfold n1B subB at d3
 simp only [f131]
 simp [-calmR_some, f131b, d1, d2, e134, e140, d3]
 refine loop_genR (α := Nat) (R := fun _ r => calmR S r = some (.sc (.bool true), S)) (fun i e rg S' => i ≤ 3 ∧ NQ [0, 6, 7, 28, 29, 30, 31, 32, 33, 34, 35, 36, 37, 38, 39, 40, 41, 42, 43] [6] e ∧ e 1 = .ptr S.n 0 0 ∧ e 3 = .ptr k 0 0 ∧ e 4 = .reg 4 0 ∧ e 5 = .sc (.int .i64 (i : Nat)) ∧ ∃ c mv L K m b, Pr S' S.n c mv k L K [] b ∧ b ≤ 10 + 4 * i ∧ Sti st7 i c K m 0 ∧ c.key = K.u.key ∧ c.seed = K.u.seed ∧ c.nonce = n1B ∧ rg 4 = some m.cells ∧ rg 8 = none ∧ rg 10 = none) (fun i => 3 - i) (fun _ _ _ _ h => h.2.1) ?_ 0 _ _ _ ?_
 rotate_left
 ·refine ⟨by omega, ?_, by simp, by simp, by simp, by simp, cc, _, L, KK, m0, 10, p3, by omega, hs0, gk, gs, gn, by simp, by simp, by simp⟩
  repeat (first | exact NQ_ini rfl | refine NQ_put ?_ (by simp))
 intro kk hkk i e rg S' ⟨hi, hq, g1, g3, g4, g5, c, mv, L', K, m, b, p, hb, hs, gk, gs, gn, gr, gr8, gr10⟩ ih
 by_cases hc : i < 3
 ·have hc' : (i : Int) < 3 := by omega
  have w2 : IntKind.i64.wrap ((i : Int) + 1) = ((i + 1 : Nat) : Int) := w64 (by omega)
  obtain ⟨S4, S5, r, c', m', mv', L'', K', q1, q2, q3, q4, q5, q6, q7, _⟩ := p.good (now := 0) (by omega) hs (by omega) (by omega) (by omega) gk gs
  unfold xxB at q2
  simp [-calmR_some, f131_l0, g1, g3, g4, g5, gr, hc', q1, e140, q2, w2]
  refine ih (i + 1) _ _ _ (by omega) (fun _ h => h) ⟨by omega, ?_, by simp [g1], by simp [g3], by simp [g4], by simp, c', mv', L'', K', m', b + 4, q3, by omega, q4, q5, q6, q7.trans gn, by simp, by simp [gr8], by simp [gr10]⟩
  repeat (first | exact NQ_fgt hq | refine NQ_put ?_ (by simp))
 ·have hi' : i = 3 := by omega
  subst hi'
  obtain ⟨S4, S5, r, c', mv', L'', K', dv, s, q1, q2, q3, q4, q5, q6, q7, q8, q9, q10, q11, q12, _⟩ := p.last (now := 0) (by omega) hs (by omega) (by omega) (by omega) gk gs
  unfold xxB at q2
  have e104 := s104 q3.cl q3.cs.z3
  rw [q6] at e104
  have hm := c120 q3.cl (by rw [q11]; simp; omega)
  have hml : c'.marks.length = 3 := by rw [q11]; simp [hl3]
  have e232 := s232 q3.cl
  rw [q12.1 hot] at e232
  obtain ⟨x, r1, r2, _, r3⟩ := iss_at q3.kd
  have his := q3.kd.at_.issued
  have e61 := @s61 s s S5 q9
  rw [T.same_self] at e61
  have e84 := fun S => @none84 S
  have mr := @marksV_reg c'.marks
  have ml := @marksV_len c'.marks
  rw [hml] at ml
  have ml : pev .lenL [marksV c'.marks] = some (.i 3) := ml
  rw [q8, q10, gn] at e104
  unfold n1B at e104
  generalize marksV c'.marks = mV at *
  simp [-calmR_some, f131_l0, g5]
  rw [hkk]
  rw [if_pos rfl] at e104
  simp [-calmR_some, g1, g3, g4, gr, gr8, gr10, q1, e140, q2, e104, e84, his, r1, r2, r3, e61, hm, ml, e232]
  simp
end
def WSt (i : Nat) (c : Cl) (K : Kd) (m : T) : Prop :=
 (∃ nx rest, i = 0 ∧ Ini c K m nx rest ∧ ∃ d ∈ nx :: rest, ¬ gud c K d) ∨ (∃ done nx rest, i = done.length + 1 ∧ Mid c K m done nx rest 0 ∧ ∃ d ∈ nx :: rest, ¬ gud c K d)
theorem WSt.le {i : Nat} {c : Cl} {K : Kd} {m : T} (h : WSt i c K m) : i ≤ 3 := by
 rcases h with ⟨nx, rest, rfl, _⟩ | ⟨done, nx, rest, rfl, hM, _⟩
 ·omega
 ·have := hM.len; omega
theorem gud_same {c c' : Cl} {K K' : Kd} {d : ByteArray} (h1 : c'.key = c.key) (h2 : c'.seed = c.seed) (h3 : K'.u.key = K.u.key) (h4 : K'.u.seed = K.u.seed) : gud c' K' d ↔ gud c K d := by
 unfold gud; rw [h1, h2, h3, h4]
structure Wrs (c : Cl) (K : Kd) (m : T) (i : Nat) (x : T) : Prop where
 mlo : m.lo
 rlo : (K.req m 0).1.lo
 is : (K.req m 0).2.2 = none
 en : (c.take (K.req m 0).1 0 x).1.ended = false
 nx : (c.take (K.req m 0).1 0 x).2.2 ≠ 0 ∨ ((c.take (K.req m 0).1 0 x).2.2 = 0 ∧ WSt (i + 1) (c.take (K.req m 0).1 0 x).1 (K.req m 0).2.1 (c.take (K.req m 0).1 0 x).2.1)
section
variable {c : Cl} {K : Kd} {m x : T} {i : Nat}
theorem WSt.step (h : WSt i c K m) (he : c.ended = false) (hK : 0 ≤ K.n ∧ K.n ≤ 900000) (hx : atT x) : Wrs c K m i x := by
 rcases h with ⟨nx, rest, rfl, hI, hb⟩ | ⟨done, nx, rest, rfl, hM, hb⟩
 ·obtain ⟨h1, h2, h3, h4⟩ := hI.step (x := x) hK hx (now := 0) (by omega)
  by_cases hk : nx = spkB → K.u.key = c.key
  ·obtain ⟨h5, h6, h7, h8⟩ := h3 hk
   refine ⟨hI.lo, h1, h2, by rw [h6]; exact he, .inr ⟨h5, .inr ⟨[], nx, rest, rfl, h8, ?_⟩⟩⟩
   obtain ⟨d, hd, hg⟩ := hb
   refine ⟨d, hd, fun e => hg ?_⟩
   rw [h6, h7] at e
   have o := (@offK_same K nx).2.2.1
   exact (gud_same rfl rfl (by rw [o]) (by rw [o])).1 e
  ·have hk1 : nx = spkB := by
    by_cases h : nx = spkB
    ·exact h
    ·exact absurd (fun e => absurd e h) hk
   have hk2 : K.u.key ≠ c.key := fun e => hk fun _ => e
   have ht := h4 hk1 hk2
   exact ⟨hI.lo, h1, h2, by rw [ht]; exact he, .inl (by rw [ht]; exact (show (6 : Int) ≠ 0 by decide))⟩
 ·obtain ⟨_, _, _, _, _, _, hlo, _⟩ := hM.seen (now := 0) (by omega)
  by_cases hgn : gud c K nx
  ·have hbr : ∃ d ∈ rest, ¬ gud c K d := by
    obtain ⟨d, hd, hg⟩ := hb
    rcases List.mem_cons.1 hd with rfl | hd
    ·exact absurd hgn hg
    ·exact ⟨d, hd, hg⟩
   match rest, hM, hbr with
   | [], hM, hbr => obtain ⟨d, hd, _⟩ := hbr; cases hd
   | nx2 :: rest, hM, hbr =>
     obtain ⟨h1, h2, h3, h4⟩ := hM.step (x := x) (now := 0) (by omega) hgn hK hx (by omega)
     by_cases hk : nx2 = spkB → K.u.key = c.key
     ·obtain ⟨h5, h6, h7, _, h8, h9, h10, h11⟩ := h3 hk
      refine ⟨hlo, h1, h2, h7.trans he, .inr ⟨h5, .inr ⟨done ++ [nx], nx2, rest, by simp, h6, ?_⟩⟩⟩
      obtain ⟨d, hd, hg⟩ := hbr
      exact ⟨d, hd, fun e => hg ((gud_same h9 h8 h10 h11).1 e)⟩
     ·have hk1 : nx2 = spkB := by
       by_cases h : nx2 = spkB
       ·exact h
       ·exact absurd (fun e => absurd e h) hk
      have hk2 : K.u.key ≠ c.key := fun e => hk fun _ => e
      have ht := h4 hk1 hk2
      exact ⟨hlo, h1, h2, by rw [ht]; exact he, .inl (by rw [ht]; exact (show (6 : Int) ≠ 0 by decide))⟩
  ·obtain ⟨h1, h2⟩ := hM.bad (now := 0) (by omega) hgn
   have ht : c.take (K.req m 0).1 0 x = ({ c with on := false }, tNone, 6) := by rw [h1]; exact take_refuse hM.fz.on (by omega)
   refine ⟨hlo, ?_, h2, by rw [ht]; exact he, .inl (by rw [ht]; exact (show (6 : Int) ≠ 0 by decide))⟩
   rw [h1]
   unfold T.lo tRefuse
   rw [pack_bulk, bulkL_cons, bulkL_nil]
   have hnum : (tNum 6).bulk ≤ 25 := by
    show (tWord (itoaB 6)).bulk ≤ _
    rw [word_bulk]; have := itoa_sz (n := 6) (by unfold inI; omega); omega
   have : errB.size = 5 := rfl
   omega
end
section
variable {S : AS}
theorem Pr.wrong {a : Nat} {c : Cl} {mv : AV} {k : Nat} {L : Loc} {K : Kd} {b i : Nat} {m : T} (h : Pr S a c mv k L K [] b) (hb : b ≤ 800) (hs : WSt i c K m) (he : c.ended = false) :
 ∃ S1 S2 r c' m' e mv' L' K', call 137 [.ptr k 0 0, .agg m.cells, .i 0] S = some (.agg r, S1) ∧ call 141 [.ptr a 0 0, .agg r, .i 0, .agg (tAtom xxB).cells] S1 = some (.tup [.agg (T.cells m'), .sc (.int .i64 e)], S2) ∧
  Pr S2 a c' mv' k L' K' [] (b + 4) ∧ c'.ended = false ∧ (e ≠ 0 ∨ (e = 0 ∧ WSt (i + 1) c' K' m')) := by
 have w := hs.step he (by have := h.ks.n; omega) x_at
 obtain ⟨S1, S2, mv', L', R', d1, d2, p, is, G⟩ := h.round (by omega) w.mlo (now := 0) (by omega) x_lo w.rlo
 rw [w.is] at is
 rw [show R' = [] from is] at p
 exact ⟨S1, S2, _, _, _, _, mv', L', _, d1, d2, p, w.en, w.nx⟩
def pwbB : ByteArray := ⟨#[112, 97, 115, 115, 119, 111, 114, 100, 32, 98]⟩
def sdbB : ByteArray := ⟨#[115, 101, 101, 100, 32, 98]⟩
theorem long_ne : tLong (tAtom pwbB) naB ≠ tLong (tAtom pwaB) naB := fun e => by
 have := (tKdf_inj.1 e).1
 have := tAtom_inj.1 this
 revert this; decide
theorem seed_ne : tAtom sdbB ≠ tAtom sdaB := fun e => by
 have := tAtom_inj.1 e
 revert this; decide
def pwW (seed : Bool) : ByteArray := if seed then pwaB else pwbB
def sdW (seed : Bool) : ByteArray := if seed then sdbB else sdaB
theorem wst0 {j : Nat} {seed : Bool} (hb : ∃ d ∈ setL j, seed = decide (d = otpB)) : WSt 0 ((c0 (tAtom (pwW seed)) (tAtom (sdW seed))).start n1B (tAtom subB)) (kd0 (setL j)) (((c0 (tAtom (pwW seed)) (tAtom (sdW seed))).start n1B (tAtom subB)).says tNone tNone) := by
 have hpw : pwW seed ≠ ⟨#[]⟩ ∧ (pwW seed).size ≤ 1000 := by cases seed <;> exact ⟨by decide, by show 10 ≤ _; omega⟩
 have hsd : sdW seed ≠ ⟨#[]⟩ ∧ (sdW seed).size ≤ 1000 := by cases seed <;> exact ⟨by decide, by show 6 ≤ _; omega⟩
 have h := sti0 (K := kd0 (setL j)) (j := j) (nonce := n1B) (sn := subB) (t0 := 0) kd0_KD hpw hsd n1_ok sub_ok
 rcases h with ⟨_, nx, rest, hI, hs⟩ | ⟨done, nx, rest, _, _, hi⟩
 ·refine .inl ⟨nx, rest, rfl, hI, ?_⟩
  obtain ⟨d, hd, e⟩ := hb
  rw [hs] at hd
  refine ⟨d, hd, fun hg => ?_⟩
  unfold gud at hg
  by_cases ho : d = otpB
  ·rw [if_pos ho] at hg
   rw [decide_eq_true ho] at e
   subst e
   exact seed_ne hg
  ·rw [if_neg ho] at hg
   rw [decide_eq_false ho] at e
   subst e
   exact long_ne hg
 ·omega
set_option maxHeartbeats 8000000 in
set_option maxRecDepth 100000 in
theorem c143 {k : Nat} {L : Loc} {j : Nat} {seed : Bool} (h : IsKd S k L (kd0 (setL j)) []) (hb : ∃ d ∈ setL j, seed = decide (d = otpB)) : Tru (call 143 [.ptr k 0 0, .sc (.bool seed)] S) := by
 rw [call_keep a143 (by simp) rfl]
 have hS := h.hS
 obtain ⟨S1, d1, h1, g1⟩ := c204 (S := S) (pass := tAtom (pwW seed)) (seed := tAtom (sdW seed)) (counter := 2) (ticket := tickT) (host := hostT) hS na_size
 have hk1 : IsKd S1 k L (kd0 (setL j)) [] := h.keep g1.1 g1.2.1 fun x hx _ => (g1.2.2 x hx fun e => e).1
 have p : Pr S1 S.n (c0 (tAtom (pwW seed)) (tAtom (sdW seed))) (.lst 0 true []) k L (kd0 (setL j)) [] 10 := ⟨h1, hk1, fun x hx ho => (g1.2.2 x (h.own_lt ho) fun e => e).2 hx, c0_sz, kd0_sz, by simp⟩
 obtain ⟨S3, d3, p3, _⟩ := p.start (nonce := n1B) (sub := tAtom subB) (by show 1 ≤ _; omega)
 have hs0 := wst0 hb
 have e140 := fun S s => @s140 S s
 have e233 := fun S => @s233 S
 have he0 : ((c0 (tAtom (pwW seed)) (tAtom (sdW seed))).start n1B (tAtom subB)).ended = false := rfl
 have hcf := @cfg_bld (tAtom (pwW seed)) (tAtom (sdW seed))
 generalize ((c0 (tAtom (pwW seed)) (tAtom (sdW seed))).start n1B (tAtom subB)).says tNone tNone = m0 at *
 generalize (c0 (tAtom (pwW seed)) (tAtom (sdW seed))).start n1B (tAtom subB) = cc at *
 generalize kd0 (setL j) = KK at *
 unfold n1B subB at d3
 have hh : hostT = tAtom ⟨#[104, 111, 115, 116]⟩ := rfl
 rw [hh] at hcf d1
 simp only [f143]
 have run : ∀ (e : Nat → AV) (rg : Nat → Option (List AV)), e 0 = .ptr k 0 0 → e 7 = .ptr S.n 0 0 → e 8 = .reg 8 0 → e 9 = .i 0 → rg 8 = some m0.cells → rg 12 = none → NQ [10, 11, 31, 32, 33, 34, 35, 36, 37, 38, 39, 40, 41, 42, 43, 44, 45, 46] [10] e →
  ∀ ks : List Kn, (∀ (e : Nat → AV) (rg : Nat → Option (List AV)) (S' : AS), e 0 = .ptr k 0 0 → e 7 = .ptr S.n 0 0 → rg 12 = none → (∃ c mv L K b, Pr S' S.n c mv k L K [] b ∧ c.ended = false) → Tru (fin [.tmp 4] (unw AA (some (.exit 0, st 63 e rg S')) ks))) →
  Tru (fin [.tmp 4] (exec AA (.loop [10, 11, 31, 32, 33, 34, 35, 36, 37, 38, 39, 40, 41, 42, 43, 44, 45, 46] [10] f143_l0) (st 63 e rg S3) ks)) := by
  intro e rg g0 g7 g8 g9 gr g12 hq ks hks
  refine loop_genR (α := Nat) (R := fun _ r => Tru r) (fun i e rg S' => i ≤ 5 ∧ NQ [10, 11, 31, 32, 33, 34, 35, 36, 37, 38, 39, 40, 41, 42, 43, 44, 45, 46] [10] e ∧ e 0 = .ptr k 0 0 ∧ e 7 = .ptr S.n 0 0 ∧ e 8 = .reg 8 0 ∧ e 9 = .sc (.int .i64 (i : Nat)) ∧ rg 12 = none ∧ ∃ c mv L K m b, Pr S' S.n c mv k L K [] b ∧ b ≤ 10 + 4 * i ∧ WSt i c K m ∧ c.ended = false ∧ rg 8 = some m.cells) (fun i => 5 - i) (fun _ _ _ _ h => h.2.1) ?_ 0 _ _ _ ?_
  rotate_left
  ·exact ⟨by omega, hq, g0, g7, g8, g9, g12, cc, _, L, KK, m0, 10, p3, by omega, hs0, he0, gr⟩
  intro kk hkk i e rg S' ⟨hi, hq, g0, g7, g8, g9, g12, c, mv, L', K, m, b, p, hb, hs, he, gr⟩ ih
  have hle := hs.le
  have hc' : (i : Int) < 5 := by omega
  have w2 : IntKind.i64.wrap ((i : Int) + 1) = ((i + 1 : Nat) : Int) := w64 (by omega)
  obtain ⟨S4, S5, r, c', m', er, mv', L'', K', q1, q2, q3, q4, q5⟩ := p.wrong (by omega) hs he
  unfold xxB at q2
  rcases q5 with hne | ⟨h0, hw⟩
  ·simp [f143_l0, g0, g7, g8, g9, gr, hc', q1, e140, q2, hne]
   rw [hkk]
   simp
   exact hks _ _ _ (by simp [g0]) (by simp [g7]) (by simp [g12]) ⟨c', mv', L'', K', _, q3, q4⟩
  ·subst h0
   simp [f143_l0, g0, g7, g8, g9, gr, hc', q1, e140, q2, w2]
   refine ih (i + 1) _ _ _ (by omega) (fun _ h => h) ⟨by omega, ?_, by simp [g0], by simp [g7], by simp [g8], by simp, by simp [g12], c', mv', L'', K', m', b + 4, q3, by omega, hw, q4, by simp⟩
   repeat (first | exact NQ_fgt hq | refine NQ_put ?_ (by simp))
 have fin2 : ∀ (e : Nat → AV) (rg : Nat → Option (List AV)) (S' : AS), e 0 = .ptr k 0 0 → e 7 = .ptr S.n 0 0 → rg 12 = none → (∃ c mv L K b, Pr S' S.n c mv k L K [] b ∧ c.ended = false) → True := fun _ _ _ _ _ _ _ => trivial
 cases seed with
 | true =>
   simp only [pwW, sdW, if_true, pwaB, sdbB] at d1 hcf
   simp [-pev_build, f143b, e140, e233, hcf, d1, d3]
   apply run <;> (try simp)
   ·repeat (first | exact NQ_ini rfl | refine NQ_put ?_ (by simp))
   ·intro e rg S' g0 g7 g12 c mv L' K b p he
    have e104 := s104 p.cl p.cs.z3
    rw [he] at e104
    have his := p.kd.at_.issued
    have hlen := p.kd.gv.len
    simp at e104 hlen
    simp [g0, g7, g12, e104, his, hlen]
 | false =>
   simp only [pwW, sdW, if_false, pwbB, sdaB, Bool.false_eq_true] at d1 hcf
   simp [-pev_build, f143b, e140, e233, hcf, d1, d3]
   apply run <;> (try simp)
   ·repeat (first | exact NQ_ini rfl | refine NQ_put ?_ (by simp))
   ·intro e rg S' g0 g7 g12 c mv L' K b p he
    have e104 := s104 p.cl p.cs.z3
    rw [he] at e104
    have his := p.kd.at_.issued
    have hlen := p.kd.gv.len
    simp at e104 hlen
    simp [g0, g7, g12, e104, his, hlen]
end
section
variable {S : AS}
set_option maxHeartbeats 8000000 in
set_option maxRecDepth 100000 in
theorem law30 {n : Int} {seed : Bool} (hS : S.ro ≤ S.n) : Tru (call 30 [.sc (.int .i64 n), .sc (.bool seed)] S) := by
 rw [call_keep a30 (by simp) rfl]
 have e131 := fun S => @s131 S
 have e134 := fun S => @s134 S n
 obtain ⟨j, hj⟩ : ∃ j, j = (n % 8).toNat := ⟨_, rfl⟩
 rw [← hj] at e134
 obtain ⟨S1, k, L, d1, hk, _⟩ := c133 (S := S) (j := j) hS
 have hl3 := (@setL_ok j).2.1
 have hw := fun hb => c143 (S := S1) (seed := seed) hk hb
 simp only [f30]
 simp [f30b, e131, e134, d1]
 generalize setL j = l at *
 refine loop_gen (α := Nat) (R := fun _ r => Tru r) (fun i e rg S' => i ≤ l.length ∧ S' = S1 ∧ e 0 = .sc (.int .i64 n) ∧ e 1 = .sc (.bool seed) ∧ e 5 = .b true ∧ e 6 = .ptr k 0 0 ∧ e 8 = .sc (.int .i64 (i : Nat)) ∧ ∃ u : Bool, e 7 = .sc (.bool u) ∧ (u = true → ∃ d ∈ l, seed = decide (d = otpB))) (fun i => l.length - i) ?_ 0 _ _ _ ?_
 rotate_left
 ·exact ⟨by omega, rfl, by simp, by simp, by simp, by simp, by simp, false, by simp, fun h => (by cases h)⟩
 intro kk hkk i e rg S' ⟨hi, hS', g0, g1, g5, g6, g8, u, g7, hu⟩ ih
 subst hS'
 by_cases hc : i < l.length
 ·obtain ⟨d, hd⟩ := get_of_lt hc
  have hat := lstS_at hd
  have w2 : IntKind.i64.wrap ((i : Int) + 1) = ((i + 1 : Nat) : Int) := w64 (by omega)
  cases u with
  | true =>
    simp [f30_l0, g0, g1, g7, g8, e134, hc, w2]
    exact ih (i + 1) _ _ _ (by omega) (fun _ h => h) ⟨by omega, rfl, by simp [g0], by simp [g1], by simp [g5], by simp [g6], by simp, true, by simp, fun _ => hu rfl⟩
  | false =>
    have heq : ∀ b : Bool, pev (.eqB false) [.sc (.bool seed), .sc (.bool b)] = some (.sc (.bool (seed == b))) := by
     intro b; cases seed <;> cases b <;> rfl
    simp [f30_l0, g0, g1, g7, g8, e134, hc, hat, w2, heq]
    refine ih (i + 1) _ _ _ (by omega) (fun _ h => h) ⟨by omega, rfl, by simp [g0], by simp [g1], by simp [g5], by simp [g6], by simp, _, by simp; rfl, ?_⟩
    intro hx
    refine ⟨d, List.mem_of_getElem? hd, ?_⟩
    by_cases hdo : d = ⟨#[111, 116, 112]⟩
    ·have h : seed = true := by simpa [hdo] using hx
     rw [h]; exact (decide_eq_true (show d = otpB from hdo)).symm
    ·have h : seed = false := by simpa [hdo] using hx
     rw [h]; exact (decide_eq_false (show ¬ d = otpB from hdo)).symm
 ·have hi' : i = l.length := by omega
  subst hi'
  simp [f30_l0, g0, g8, e134]
  rw [hkk]
  cases u with
  | true =>
    obtain ⟨S2, h143⟩ := hw (hu rfl)
    simp [g1, g5, g6, g7, h143]
  | false => simp [g5, g7]
end
end Abs
