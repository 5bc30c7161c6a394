/- MechSides, MechMeets: at the machine. -/
import Derived.Test.YtpmgdaoofalpnaaGreatDoorSm
import Derived.Test.YtpmgdaoofalpnaaGreatDoorSp
set_option linter.unusedVariables false
set_option linter.unusedSimpArgs false
set_option linter.unusedSectionVars false
namespace Abs
open Go

structure Fv.good (f : Fv) : Prop where
  ak : f.ak.bb
  user : f.user.bb
  body : f.body.bb
  x : f.x.bb
  y : f.y.bb
  xy : ShOk f.x f.y
  yx : ShOk f.y f.x
  yy : ShOk f.y f.y
  ne : f.x ≠ f.y
theorem hd_ne {p q s t : ByteArray} {b c : UInt8} (h : p.data[0]? = some b) (h' : q.data[0]? = some c) (hbc : b ≠ c) : p ++ s ≠ q ++ t := by
  intro e
  have e := congrArg (fun x => x.data[0]?) e
  have h1 : 0 < p.data.size := by
    rcases Nat.eq_zero_or_pos p.data.size with h0 | h0
    · rw [Array.getElem?_eq_none (by omega)] at h; cases h
    · exact h0
  have h2 : 0 < q.data.size := by
    rcases Nat.eq_zero_or_pos q.data.size with h0 | h0
    · rw [Array.getElem?_eq_none (by omega)] at h'; cases h'
    · exact h0
  simp only [ByteArray.data_append, Array.getElem?_append_left h1, Array.getElem?_append_left h2, h, h'] at e
  exact hbc (by simpa using e)
theorem nmF_good {s : ByteArray} (hs : s.size ≤ 140737488355000) : (nmF s).good := by
  have z1 : akB.size = 3 := rfl
  have z2 : usB.size = 5 := rfl
  have z3 : boB.size = 5 := rfl
  have z4 : xB.size = 2 := rfl
  have z5 : yB.size = 2 := rfl
  have s1 : (akB ++ s).size ≤ 140737488355328 := by rw [ByteArray.size_append]; omega
  have s2 : (usB ++ s).size ≤ 140737488355328 := by rw [ByteArray.size_append]; omega
  have s3 : (boB ++ s).size ≤ 140737488355328 := by rw [ByteArray.size_append]; omega
  have s4 : (xB ++ s).size ≤ 140737488355328 := by rw [ByteArray.size_append]; omega
  have s5 : (yB ++ s).size ≤ 140737488355328 := by rw [ByteArray.size_append]; omega
  have n4 : xB ++ s ≠ ⟨#[]⟩ := app_nonempty' (by omega)
  have n5 : yB ++ s ≠ ⟨#[]⟩ := app_nonempty' (by omega)
  exact ⟨bb_atom s1, bb_atom s2, bb_data s3, bb_atom s4, bb_atom s5, shOk_atoms n4 n5 (by omega) (by omega), shOk_atoms n5 n4 (by omega) (by omega), shOk_atoms n5 n5 (by omega) (by omega), fun e => hd_ne (b := 120) (c := 121) rfl rfl (by decide) (tAtom_inj.1 e)⟩
section
variable {S : AS}
set_option maxHeartbeats 4000000 in
set_option maxRecDepth 100000 in
theorem law36 {s : ByteArray} (hs : s.size ≤ 140737488355000) : call 36 [.sc (.string s)] S = some (.sc (.bool true), S) := by
  rw [call_keep a36 (by simp) rfl]
  have e146 := @s146
  have e152 := fun S => @s152 S s (by omega)
  have g := nmF_good hs
  generalize nmF s = f at *
  have e1 := fun S => @s153 S f.user f.y
  have e2 := fun S => @s154 S f.user f.body (tPoint f.user f.y) f.x (bb_point g.user g.y) (sh154 g.xy)
  rw [ans_point, if_pos rfl] at e2
  have e3 := fun S => @s155 S f.user f.body f.y (tPack spkB [tMsk f.x f.user, tFac f.x f.y f.user (tMsk f.y f.user) (tMsk f.x f.user) f.body]) (bb_pack2 (small_sz (by show 5 ≤ 100; omega)) (bb_msk g.x g.user) (bb_fac g.x g.y g.user (bb_msk g.y g.user) (bb_msk g.x g.user) g.body)) (sh155 g.xy)
  rw [chk_point, if_pos rfl, T.same_self, if_pos rfl] at e3
  have e4 := fun S => @s153 S f.user f.x
  have e5 := fun S => @s154 S f.user f.body (tPoint f.user f.x) f.y (bb_point g.user g.x) (sh154 g.yx)
  rw [ans_point, if_pos rfl] at e5
  have bq := bb_pack2 (n := spkB) (small_sz (by show 5 ≤ 100; omega)) (bb_msk g.y g.user) (bb_fac g.y g.x g.user (bb_msk g.x g.user) (bb_msk g.y g.user) g.body)
  have e6 := fun S => @s155 S f.user f.body f.x (tPack spkB [tMsk f.y f.user, tFac f.y f.x f.user (tMsk f.x f.user) (tMsk f.y f.user) f.body]) bq (sh155 g.yx)
  rw [chk_point, if_pos rfl, T.same_self, if_pos rfl] at e6
  have e7 := fun S => @s155 S f.user f.body f.y (tPack spkB [tMsk f.y f.user, tFac f.y f.x f.user (tMsk f.x f.user) (tMsk f.y f.user) f.body]) bq (sh155 g.yy)
  have hne : tFac f.y f.x f.user (tMsk f.x f.user) (tMsk f.y f.user) f.body ≠ tFac f.y f.y f.user (tMsk f.y f.user) (tMsk f.y f.user) f.body := fun e => g.ne (tMsk_inj.1 (tFac_inj.1 e).2.2.1).1
  rw [chk_point, if_pos rfl, same_ne hne, if_neg (by simp)] at e7
  have b1 := T.bb_fits (bb_xkey (n := 0) g.x g.y g.user (bb_msk g.y g.user) (bb_msk g.x g.user) g.body i0)
  have b2 := T.bb_fits (bb_xkey (n := 0) g.y g.x g.user (bb_msk g.x g.user) (bb_msk g.y g.user) g.body i0)
  have hac : (xKey f.x f.y f.user (tMsk f.y f.user) (tMsk f.x f.user) f.body 0).same (xKey f.y f.x f.user (tMsk f.x f.user) (tMsk f.y f.user) f.body 0) = false := same_ne fun e => g.ne (tMsk_inj.1 (xKey_inj.1 e).2.2.1).1.symm
  generalize xKey f.x f.y f.user (tMsk f.y f.user) (tMsk f.x f.user) f.body 0 = K1 at *
  generalize xKey f.y f.x f.user (tMsk f.x f.user) (tMsk f.y f.user) f.body 0 = K2 at *
  generalize tPack spkB [tMsk f.x f.user, tFac f.x f.y f.user (tMsk f.y f.user) (tMsk f.x f.user) f.body] = P1 at *
  generalize tPack spkB [tMsk f.y f.user, tFac f.y f.x f.user (tMsk f.x f.user) (tMsk f.y f.user) f.body] = P2 at *
  simp [f36, f36b, e146, e152, e1, e2, e3, e4, e5, e6, e7, resA, resU, b1, b2, hac]
end
end Abs

namespace Abs
open Go

theorem pev_and20 {a : Int} : pev (.bin .and) [.sc (.int .i64 a), .sc (.int .i64 1048575)] = some (.sc (.int .i64 (a % 1048576))) := pev_and_mask (m := 20) (by omega)
theorem itoa_lt {n : Int} (h0 : 0 ≤ n) (h : n < 1000000000) : (itoaB n).size ≤ 18 := by
  obtain ⟨m, rfl⟩ := Int.eq_ofNat_of_zero_le h0
  rw [itoaB_nat]
  have h9 : (10 : Nat) ^ (8 + 1) = 1000000000 := by decide
  have := numB_le 8 m (by omega)
  omega
theorem app_ne_self {p s t : ByteArray} (h : t.size ≠ 0) : p ++ s ≠ p ++ (s ++ t) := by
  intro e
  have := congrArg ByteArray.size (app_inj e)
  rw [ByteArray.size_append] at this
  omega
section
variable {S : AS}
set_option maxHeartbeats 8000000 in
set_option maxRecDepth 100000 in
theorem law33 {s : ByteArray} {now at' : Int} (hs : s.size ≤ 140737488354900) : call 33 [.sc (.string s), .sc (.int .i64 now), .sc (.int .i64 at')] S = some (.sc (.bool true), S) := by
  rw [call_keep a33 (by simp) rfl]
  have z1 : (⟨#[111]⟩ : ByteArray).size = 1 := rfl
  have hs2 : (s ++ ⟨#[111]⟩).size ≤ 140737488355000 := by rw [ByteArray.size_append]; omega
  have e146 := @s146
  have e152 := fun S => @s152 S s (by omega)
  have e152b := fun S => @s152 S (s ++ ⟨#[111]⟩) (by omega)
  have p1 := pev_sadd (x := s) (y := ⟨#[111]⟩) (by omega)
  have a1 := @pev_and20 now
  have a2 := @pev_and20 at'
  have hn0 : 0 ≤ now % 1048576 ∧ now % 1048576 < 1048576 := ⟨Int.emod_nonneg _ (by omega), Int.emod_lt_of_pos _ (by omega)⟩
  have ha0 : 0 ≤ at' % 1048576 ∧ at' % 1048576 < 1048576 := ⟨Int.emod_nonneg _ (by omega), Int.emod_lt_of_pos _ (by omega)⟩
  generalize now % 1048576 = n at *
  generalize at' % 1048576 = m at *
  have hi : inI n := by unfold inI; omega
  have h18 := itoa_lt (n := n) hn0.1 (by omega)
  have w1 : IntKind.i64.wrap (n - m) = n - m := w64 (by omega)
  have g := nmF_good (s := s) (by omega)
  have go := nmF_good hs2
  have na : (nmF s).ak ≠ (nmF (s ++ ⟨#[111]⟩)).ak := fun e => app_ne_self (by omega) (tAtom_inj.1 e)
  have nu : (nmF s).user ≠ (nmF (s ++ ⟨#[111]⟩)).user := fun e => app_ne_self (by omega) (tAtom_inj.1 e)
  have nb : (nmF s).body ≠ (nmF (s ++ ⟨#[111]⟩)).body := fun e => app_ne_self (by omega) (tData_inj.1 e)
  have ny : (nmF s).y ≠ (nmF (s ++ ⟨#[111]⟩)).y := fun e => app_ne_self (by omega) (tAtom_inj.1 e)
  have hxy : ShOk (nmF s).x (nmF (s ++ ⟨#[111]⟩)).y := by
    have z4 : xB.size = 2 := rfl
    have z5 : yB.size = 2 := rfl
    exact shOk_atoms (app_nonempty' (by omega)) (app_nonempty' (by omega)) (by rw [ByteArray.size_append]; omega) (by rw [ByteArray.size_append]; omega)
  generalize nmF s = f at *
  generalize nmF (s ++ ⟨#[111]⟩) = o at *
  have e148 := fun S => @s148 S f.ak f.user f.body n hi
  have bc := bb_chal g.ak g.user g.body hi
  have e1 := fun S => @s149 S f.ak f.user f.body _ m bc (by omega)
  rw [chk_chal hi h18, if_pos ⟨rfl, rfl⟩, if_pos rfl] at e1
  have e2 := fun S => @s149 S o.ak f.user f.body _ n bc (by omega)
  rw [chk_chal hi h18, if_neg (fun h => na h.1)] at e2
  have e3 := fun S => @s149 S f.ak o.user f.body _ n bc (by omega)
  rw [chk_chal hi h18, if_neg (fun h => nu h.2)] at e3
  have e4 := fun S => @s149 S f.ak f.user o.body _ n bc (by omega)
  rw [chk_chal hi h18, if_pos ⟨rfl, rfl⟩, if_neg nb] at e4
  generalize tChal f.ak f.user f.body n = C at *
  have f1 := fun S => @s153 S f.user f.y
  have bo := bb_point g.user g.y
  have f2 := fun S => @s154 S f.user f.body (tPoint f.user f.y) f.x bo (sh154 g.xy)
  rw [ans_point, if_pos rfl] at f2
  have f3 := fun S => @s154 S o.user f.body (tPoint f.user f.y) f.x bo (sh154 g.xy)
  rw [ans_point, if_neg nu] at f3
  have bp := bb_pack2 (n := spkB) (small_sz (by show 5 ≤ 100; omega)) (bb_msk g.x g.user) (bb_fac g.x g.y g.user (bb_msk g.y g.user) (bb_msk g.x g.user) g.body)
  have g1 := fun S => @s155 S f.user f.body f.y _ bp (sh155 g.xy)
  rw [chk_point, if_pos rfl, T.same_self, if_pos rfl] at g1
  have g2 := fun S => @s155 S o.user f.body f.y _ bp (sh155 g.xy)
  rw [chk_point, if_neg nu] at g2
  have g3 := fun S => @s155 S f.user o.body f.y _ bp (sh155 g.xy)
  rw [chk_point, if_pos rfl, same_ne (fun e => nb (tFac_inj.1 e).2.2.2.2), if_neg (by simp)] at g3
  have g4 := fun S => @s155 S f.user f.body o.y _ bp (sh155 hxy)
  rw [chk_point, if_pos rfl, same_ne (fun e => ny (tMsk_inj.1 (tFac_inj.1 e).2.2.1).1), if_neg (by simp)] at g4
  have b1 := T.bb_fits (bb_xkey (n := 0) g.x g.y g.user (bb_msk g.y g.user) (bb_msk g.x g.user) g.body i0)
  generalize xKey f.x f.y f.user (tMsk f.y f.user) (tMsk f.x f.user) f.body 0 = K1 at *
  generalize tPack spkB [tMsk f.x f.user, tFac f.x f.y f.user (tMsk f.y f.user) (tMsk f.x f.user) f.body] = P1 at *
  by_cases hd : (n - m).natAbs > 5
  · rw [if_pos hd] at e1
    have hc : ¬ (-5 ≤ n - m ∧ n - m ≤ 5) := by omega
    by_cases hc1 : -5 ≤ n - m
    · have hc2 : ¬ n - m ≤ 5 := fun h => hc ⟨hc1, h⟩
      simp [f33, f33b, e146, e152, e152b, p1, a1, a2, w1, e148, e1, e2, e3, e4, f1, f2, f3, g1, g2, g3, g4, resA, resU, b1, hc1, hc2]
    · simp [f33, f33b, e146, e152, e152b, p1, a1, a2, w1, e148, e1, e2, e3, e4, f1, f2, f3, g1, g2, g3, g4, resA, resU, b1, hc1]
  · rw [if_neg hd] at e1
    have hc1 : -5 ≤ n - m := by omega
    have hc2 : n - m ≤ 5 := by omega
    simp [f33, f33b, e146, e152, e152b, p1, a1, a2, w1, e148, e1, e2, e3, e4, f1, f2, f3, g1, g2, g3, g4, resA, resU, b1, hc1, hc2]
end
end Abs

namespace Abs
open Go

theorem pev_and8 {a : Int} : pev (.bin .and) [.sc (.int .i64 a), .sc (.int .i64 255)] = some (.sc (.int .i64 (a % 256))) := pev_and_mask (m := 8) (by omega)
section
variable {S : AS}
theorem s160_nil {v : AV} (hv : v = lstI [] ∨ v = .lst 1 true []) : call 160 [lstI [], v] S = some (.sc (.bool true), S) := by
  rcases hv with rfl | rfl <;>
  · rw [call_calm' a160 (args' := [lstI [], lstI []]) (by first | rfl | simp) (by first | rfl | simp) rfl]
    simp only [f160]
    simp [f160b, lstI_nil]
    rw [exec_loop]
    generalize hkk : (Kn.loop _ _ f160_l0 :: _) = kk
    simp [f160_l0]
    rw [← hkk]
    simp
theorem s160_one {c : Int} {id : Nat} (h : S.heap id = some (.rows 1 [[.sc (.int .i64 c)]])) : call 160 [lstI [c], .arr id 1 0 1 none] S = some (.sc (.bool true), S) := by
  rw [call_calm' a160 (args' := [lstI [c], .arr id 1 0 1 none]) (by first | rfl | simp) (by first | rfl | simp) rfl]
  have hM : Mem ⟨S.heap, S.n, S.n⟩ id [c] := h
  have ld := fun d rg => hM.ld (i := 0) (x := c) rfl (d := d) (rg := rg)
  have ia := @pev_iaddr_arr id 0 1 0 none (by omega)
  have ib : pev (.iaddr 1) [lstI [c], .i 0] = some (.iptr [.sc (.int .i64 c)]) := rfl
  have w1 : IntKind.i64.wrap 1 = 1 := rfl
  have hl : pev .lenL [lstI [c]] = some (.i 1) := rfl
  simp only [f160]
  simp [f160b, hl]
  rw [exec_loop]
  generalize hkk : (Kn.loop _ _ f160_l0 :: _) = kk
  simp at ia
  simp [f160_l0, hl, ia, ib, ld, w1]
  rw [← hkk, unw_loop]
  rw [exec_loop]
  generalize hkk : (Kn.loop _ _ f160_l0 :: _) = kk
  simp [f160_l0, hl]
  rw [← hkk]
  simp
def Tk.bad (t : Tk) : Prop := t.counter < 0 ∨ 1000000 < t.counter ∨ t.look < 0 ∨ 20 < t.look ∨ t.sync < 0 ∨ 50 < t.sync ∨ t.limit < 1 ∨ 100 < t.limit ∨ t.fails < 0
set_option maxHeartbeats 8000000 in
set_option maxRecDepth 100000 in
theorem law34 {s : ByteArray} {t : Tk} {at' : Int} (hs : s.size ≤ 140737488354900) : Tru (call 34 [.sc (.string s), .agg t.cells, .sc (.int .i64 at')] S) := by
  rw [call_keep a34 (by simp) rfl]
  have e146 := @s146
  have e152 := fun S => @s152 S s (by omega)
  have t4 : (t.cells.drop 4).take 1 = [.sc (.int .i64 t.fails)] := rfl
  have t5 : (t.cells.drop 5).take 1 = [.sc (.int .i64 t.limit)] := rfl
  have t5' : t.cells.drop 5 = [.sc (.int .i64 t.limit)] := rfl
  by_cases b1 : t.counter < 0
  · simp [f34, f34b, e146, e152, t4, t5, t5', b1]
  by_cases b2 : 1000000 < t.counter
  · simp [f34, f34b, e146, e152, t4, t5, t5', b1, b2]
  by_cases b3 : t.look < 0
  · simp [f34, f34b, e146, e152, t4, t5, t5', b1, b2, b3]
  by_cases b4 : 20 < t.look
  · simp [f34, f34b, e146, e152, t4, t5, t5', b1, b2, b3, b4]
  by_cases b5 : t.sync < 0
  · simp [f34, f34b, e146, e152, t4, t5, t5', b1, b2, b3, b4, b5]
  by_cases b6 : 50 < t.sync
  · simp [f34, f34b, e146, e152, t4, t5, t5', b1, b2, b3, b4, b5, b6]
  by_cases b7 : t.limit < 1
  · simp [f34, f34b, e146, e152, t4, t5, t5', b1, b2, b3, b4, b5, b6, b7]
  by_cases b8 : 100 < t.limit
  · simp [f34, f34b, e146, e152, t4, t5, t5', b1, b2, b3, b4, b5, b6, b7, b8]
  by_cases b9 : t.fails < 0
  · simp [f34, f34b, e146, e152, t4, t5, t5', b1, b2, b3, b4, b5, b6, b7, b8, b9]
  obtain ⟨u, hu⟩ : ∃ u : Tk, u = { t with pending := 0 } := ⟨_, rfl⟩
  have hset : List.take 3 t.cells ++ AV.i 0 :: List.drop 4 t.cells = u.cells := by rw [hu]; rfl
  have u1 : u.counter = t.counter := by rw [hu]
  have u2 : u.look = t.look := by rw [hu]
  have u3 : u.sync = t.sync := by rw [hu]
  have u4 : u.pending = 0 := by rw [hu]
  have hur : u.right = true := by rw [Tk.right_iff, hu]; simp only; omega
  have a8 := @pev_and8 at'
  have ha0 : 0 ≤ at' % 256 ∧ at' % 256 < 256 := ⟨Int.emod_nonneg _ (by omega), Int.emod_lt_of_pos _ (by omega)⟩
  generalize at' % 256 = m at *
  obtain ⟨r, hr⟩ : ∃ r, r = m.tmod 100 := ⟨_, rfl⟩
  have hr0 : 0 ≤ r ∧ r < 100 := by
    rw [hr, Int.tmod_eq_emod_of_nonneg ha0.1]
    exact ⟨Int.emod_nonneg _ (by omega), Int.emod_lt_of_pos _ (by omega)⟩
  have prem : pev (.bin .rem) [.sc (.int .i64 m), .sc (.int .i64 100)] = some (.sc (.int .i64 r)) := by rw [hr]; rfl
  obtain ⟨c, hc⟩ : ∃ c, c = u.counter + 1 + r := ⟨_, rfl⟩
  have w1 : IntKind.i64.wrap (u.counter + 1) = u.counter + 1 := w64 (by omega)
  have w2 : IntKind.i64.wrap (u.counter + 1 + r) = c := by rw [w64 (by omega), hc]
  have w3 : IntKind.i64.wrap (u.counter + u.look) = u.counter + u.look := w64 (by omega)
  have w4 : IntKind.i64.wrap (u.counter + u.look + u.sync) = u.counter + u.look + u.sync := w64 (by omega)
  have ci : inI c := inI_of (by omega)
  have g := nmF_good (s := s) (by omega)
  have nay : (nmF s).ak ≠ (nmF s).y := fun e => hd_ne (b := 97) (c := 121) rfl rfl (by decide) (tAtom_inj.1 e)
  have nuy : (nmF s).user ≠ (nmF s).y := fun e => hd_ne (b := 117) (c := 121) rfl rfl (by decide) (tAtom_inj.1 e)
  generalize nmF s = f at *
  have e1 := fun S => @s157 S f.x
  have e2 := fun S => @s158 S f.user c ci (by omega)
  have e3 := fun S => @s156 S f.ak (tOffer f.x) (tOtp f.user c) (bb_offer g.x)
  rw [ans_offer] at e3
  have bc := bb_code g.ak g.x (bb_otp g.user ci)
  have h1 := fun S => @s159 S f.ak f.x (tCode f.ak f.x (tOtp f.user c)) f.user u bc
  rw [hit_code, if_pos rfl, if_pos rfl, hur, if_pos rfl, hits_otp hur ci] at h1
  have h2 := fun S => @s159 S f.ak f.y (tCode f.ak f.x (tOtp f.user c)) f.user u bc
  rw [hit_code, if_pos rfl, if_neg g.ne] at h2
  have h3 := fun S => @s159 S f.y f.x (tCode f.ak f.x (tOtp f.user c)) f.user u bc
  rw [hit_code, if_neg nay] at h3
  have h4 := fun S => @s159 S f.ak f.x (tCode f.ak f.x (tOtp f.user c)) f.y u bc
  rw [hit_code, if_pos rfl, if_pos rfl, hur, if_pos rfl, hits_other nuy hur ci] at h4
  have hl0 : pev .lenL [lstI []] = some (.i 0) := rfl
  have hmay : c ∈ u.may ↔ c ≤ u.counter + u.look + u.sync := by
    rw [Tk.may_mem, u4]
    constructor
    · rintro (h | h) <;> omega
    · intro h; exact .inr (by omega)
  generalize tCode f.ak f.x (tOtp f.user c) = P at *
  by_cases hle : c ≤ u.counter + u.look + u.sync
  · rw [if_pos (hmay.2 hle)] at h1
    have hap : ∀ d rg S, opev (.append 1 8) d rg S [.lst 1 true [], .lst 1 true [[.sc (.int .i64 c)]]] = some (.arr S.n 1 0 1 none, none, S.new (.rows 1 [[.sc (.int .i64 c)]])) := fun d rg S => by simp [opev, rowsOf, appendA]
    have e160 := @s160_one (S.new (.rows 1 [[.sc (.int .i64 c)]])) c S.n heap_new
    simp [f34, f34b, e146, e152, t4, t5, t5', b1, b2, b3, b4, b5, b6, b7, b8, b9, hset, a8, prem, w1, w2, w3, w4, e1, e2, e3, h1, h2, h3, h4, resU, resH, hle, hap, e160, fillR, hl0]
  · rw [if_neg (fun h => hle (hmay.1 h))] at h1
    have e160 := @s160_nil S (.lst 1 true []) (.inr rfl)
    simp [f34, f34b, e146, e152, t4, t5, t5', b1, b2, b3, b4, b5, b6, b7, b8, b9, hset, a8, prem, w1, w2, w3, w4, e1, e2, e3, h1, h2, h3, h4, resU, resH, hle, e160, fillR, hl0]
end
end Abs

namespace Abs
open Go

theorem unp_atom {s tag : ByteArray} {n : Int} (h : tag ≠ ⟨#[]⟩) : unpT tag n (tAtom s) = none := by
  unfold unpT
  rw [if_neg]; rintro ⟨_, h2, _⟩
  exact h h2.symm
theorem NQ_fgt2 {tm tm' rgs : List Nat} {e : Nat → AV} (h : NQ tm rgs e) : NQ tm rgs (fgt tm' e) := by
  intro n
  have := h n
  unfold fgt
  split
  · simp [okR]
  · exact this
def Inv35 (f : Fv) (C O P : T) (e : Nat → AV) (rg : Nat → Option (List AV)) : Prop :=
  e 3 = .sc (.bool true) ∧ e 4 = .reg 4 0 ∧ rg 4 = some f.cells ∧ e 5 = .reg 5 0 ∧ rg 5 = some C.cells ∧ e 6 = .reg 6 0 ∧ rg 6 = some O.cells ∧ e 8 = .reg 8 0 ∧ rg 8 = some P.cells ∧ rg 21 = none ∧ rg 22 = none ∧ rg 24 = none ∧ NQ [2, 14, 15, 16, 99, 100, 101, 102, 103, 104, 105, 106, 107, 108, 109, 110, 111, 112, 113, 114, 115, 116] [14] e ∧ NQ [2, 18, 19, 20, 129, 130, 131, 132, 133, 134, 135, 136, 137, 138, 139, 140, 141, 142, 143, 144, 145] [18, 19] e
section
variable {S : AS}
set_option maxHeartbeats 16000000 in
set_option maxRecDepth 100000 in
theorem law35 {s : ByteArray} (hs : s.size ≤ 140737488354900) : Tru (call 35 [.sc (.string s)] S) := by
  rw [call_keep a35 (by simp) rfl]
  have e146 := @s146
  have e152 := fun S => @s152 S s (by omega)
  have g := nmF_good (s := s) (by omega)
  have u1 : unpT chalB 1 (nmF s).x = none := unp_atom chal_ne
  have u2 : unpT otpB 1 (nmF s).x = none := unp_atom otpB_ne
  have u3 : unpT spkB 2 (nmF s).x = none := unp_atom spk_ne
  generalize nmF s = f at *
  have i3 : inI 3 := by unfold inI; omega
  have e148 := fun S => @s148 S f.ak f.user f.body 3 i3
  have e157 := fun S => @s157 S f.x
  have e156 := fun S => @s156 S f.ak (tOffer f.x) f.y (bb_offer g.x)
  rw [ans_offer] at e156
  have e153 := fun S => @s153 S f.user f.y
  have bo := bb_point g.user g.y
  have e154 := fun S => @s154 S f.user f.body (tPoint f.user f.y) f.x bo (sh154 g.xy)
  rw [ans_point, if_pos rfl] at e154
  have bC := bb_chal g.ak g.user g.body i3
  have bO := bb_code g.ak g.x g.y
  have bF := bb_offer g.x
  have bP := bb_pack2 (n := spkB) (small_sz (by show 5 ≤ 100; omega)) (bb_msk g.x g.user) (bb_fac g.x g.y g.user (bb_msk g.y g.user) (bb_msk g.x g.user) g.body)
  have e154b := fun S => @s154 S f.user f.body (tOffer f.x) f.x bF (by intro l y h; rw [tOffer, unpT_tag (by decide)] at h; cases h)
  rw [ansS_tag (by rw [tOffer, unpT_tag (by decide)])] at e154b
  have e156b := fun S => @s156 S f.ak (tChal f.ak f.user f.body 3) f.y bC
  rw [ans_tag (by rw [tChal, unpT_tag (by decide)])] at e156b
  have hPk : (tPack spkB [tMsk f.x f.user, tFac f.x f.y f.user (tMsk f.y f.user) (tMsk f.x f.user) f.body]).kids[0]? = some (tData ⟨#[115, 112, 97, 107, 101]⟩) := rfl
  have lP : pev (.iaddr 3) [lstT (tPack spkB [tMsk f.x f.user, tFac f.x f.y f.user (tMsk f.y f.user) (tMsk f.x f.user) f.body]).kids, .i 0] = some (.iptr (tData ⟨#[115, 112, 97, 107, 101]⟩).cells) := lstT_at (i := 0) hPk
  have d : ∀ n, T.mk 1 n [] = tData n := fun _ => rfl
  have fd : (tData ⟨#[115, 112, 97, 107, 101]⟩).fits := data_fits
  -- the rows
  have r1 : ∀ t ∈ [tCode f.ak f.x f.y, tPack spkB [tMsk f.x f.user, tFac f.x f.y f.user (tMsk f.y f.user) (tMsk f.x f.user) f.body], f.x, tOffer f.x], ∀ S, call 149 [.agg f.ak.cells, .agg f.user.cells, .agg f.body.cells, .agg t.cells, .i 3] S = some (.i 2, S) := by
    intro t ht S
    have hh : t.bb ∧ unpT chalB 1 t = none := by
      simp only [List.mem_cons, List.not_mem_nil, or_false] at ht
      rcases ht with rfl | rfl | rfl | rfl
      · exact ⟨bO, by rw [tCode, unpT_tag (by decide)]⟩
      · exact ⟨bP, by rw [unpT_tag (by decide)]⟩
      · exact ⟨g.x, u1⟩
      · exact ⟨bF, by rw [tOffer, unpT_tag (by decide)]⟩
    rw [s149 hh.1 (by omega), chk_tag hh.2]
  have r2 : ∀ t ∈ [tChal f.ak f.user f.body 3, tPack spkB [tMsk f.x f.user, tFac f.x f.y f.user (tMsk f.y f.user) (tMsk f.x f.user) f.body], f.x], ∀ S, call 159 [.agg f.ak.cells, .agg f.x.cells, .agg t.cells, .agg f.y.cells, .agg [.i 0, .i 0, .i 0, .i 0, .i 0, .i 1]] S = some (.tup [lstI [], .i 2], S) := by
    intro t ht S
    have hh : t.bb ∧ unpT otpB 1 t = none := by
      simp only [List.mem_cons, List.not_mem_nil, or_false] at ht
      rcases ht with rfl | rfl | rfl
      · exact ⟨bC, by rw [tChal, unpT_tag (by decide)]⟩
      · exact ⟨bP, by rw [unpT_tag (by decide)]⟩
      · exact ⟨g.x, u2⟩
    have := @s159 S f.ak f.x t f.y ⟨0, 0, 0, 0, 0, 1⟩ hh.1
    rw [hit_tag hh.2] at this
    exact this
  have r3 : ∀ t ∈ [tChal f.ak f.user f.body 3, tCode f.ak f.x f.y, f.x, tPoint f.user f.y], ∀ S, call 155 [.agg f.user.cells, .agg f.body.cells, .agg f.y.cells, .agg t.cells] S = some (.tup [.agg tZ.cells, .i 2], S) := by
    intro t ht S
    have hh : t.bb ∧ unpT spkB 2 t = none := by
      simp only [List.mem_cons, List.not_mem_nil, or_false] at ht
      rcases ht with rfl | rfl | rfl | rfl
      · exact ⟨bC, by rw [tChal, unpT_tag (by decide)]⟩
      · exact ⟨bO, by rw [tCode, unpT_tag (by decide)]⟩
      · exact ⟨g.x, u3⟩
      · exact ⟨bo, by rw [tPoint, unpT_num (by show ((1 : Nat) : Int) ≠ 2; omega)]⟩
    rw [s155 hh.1 (by intro l f x h; rw [hh.2] at h; cases h), chkS_tag hh.2]
    rfl
  generalize hC : tChal f.ak f.user f.body 3 = C at *
  generalize hO : tCode f.ak f.x f.y = O at *
  generalize tPack spkB [tMsk f.x f.user, tFac f.x f.y f.user (tMsk f.y f.user) (tMsk f.x f.user) f.body] = P at *
  obtain ⟨L1, hL1⟩ : ∃ L, L = [O, P, f.x, tOffer f.x] := ⟨_, rfl⟩
  obtain ⟨L2, hL2⟩ : ∃ L, L = [C, P, f.x] := ⟨_, rfl⟩
  obtain ⟨L3, hL3⟩ : ∃ L, L = [C, O, f.x, tPoint f.user f.y] := ⟨_, rfl⟩
  have c1 : [O.cells, P.cells, f.x.cells, (tOffer f.x).cells] = L1.map T.cells := by rw [hL1]; rfl
  have c2 : [C.cells, P.cells, f.x.cells] = L2.map T.cells := by rw [hL2]; rfl
  have c3 : [C.cells, O.cells, f.x.cells, (tPoint f.user f.y).cells] = L3.map T.cells := by rw [hL3]; rfl
  have n1 : L1.length = 4 := by rw [hL1]; rfl
  have n2 : L2.length = 3 := by rw [hL2]; rfl
  have n3 : L3.length = 4 := by rw [hL3]; rfl
  rw [← hL1] at r1
  rw [← hL2] at r2
  rw [← hL3] at r3
  clear hL1 hL2 hL3
  simp [f35, f35b, e146, e152, e148, e157, e156, e153, e154, resA, resU, fillR, c1]
  refine loop_genR (α := Nat) (R := fun _ r => Tru r) (fun i e rg S' => i ≤ 4 ∧ NQ [2, 12, 79, 80, 81, 82, 83, 84, 85, 86, 87, 88, 89, 90, 91] [12] e ∧ Inv35 f C O P e rg ∧ e 76 = .lst 3 true (L1.map T.cells) ∧ e 77 = .sc (.int .i64 4) ∧ e 78 = .sc (.int .i64 (i : Nat))) (fun i => 4 - i) (fun _ _ _ _ h => h.2.1) ?_ 0 _ _ _ ?_
  rotate_left
  · refine ⟨by omega, ?_, ⟨by simp, by simp, by simp, by simp, by simp, by simp, by simp, by simp, by simp, by simp, by simp, by simp, (by repeat (first | exact NQ_ini rfl | refine NQ_put ?_ (by simp))), (by repeat (first | exact NQ_ini rfl | refine NQ_put ?_ (by simp)))⟩, by simp, by simp [n1], by simp⟩
    repeat (first | exact NQ_ini rfl | refine NQ_put ?_ (by simp))
  intro kk hkk i e rg S' ⟨hi, hq, ⟨g3, g4, q4, g5, q5, g6, q6, g8, q8, z21, z22, z24, y2, y3⟩, g76, g77, g78⟩ ih
  by_cases hc : i < 4
  · obtain ⟨t, ht⟩ := get_of_lt (l := L1) (i := i) (by omega)
    have w2 : IntKind.i64.wrap ((i : Int) + 1) = ((i + 1 : Nat) : Int) := w64 (by omega)
    have hcall := r1 t (List.mem_of_getElem? ht)
    have hia : pev (.iaddr 3) [.lst 3 true (L1.map T.cells), .sc (.int .i64 (i : Nat))] = some (.iptr t.cells) := by
      rw [pev_iaddrL (by omega)]; simp [ht]
    have hc' : (i : Int) < 4 := by omega
    simp [f35_l2, g4, q4, g76, g77, g78, hc, hc', hia, hcall, w2]
    refine ih (i + 1) _ _ _ (by omega) (fun _ h => h) ?_
    refine ⟨by omega, ?_, ⟨by simp [g3], by simp [g4], by simp [q4], by simp [g5], by simp [q5], by simp [g6], by simp [q6], by simp [g8], by simp [q8], by simp [z21], by simp [z22], by simp [z24], (by repeat (first | exact NQ_fgt2 y2 | exact NQ_fgt2 y3 | refine NQ_put ?_ (by simp))), (by repeat (first | exact NQ_fgt2 y2 | exact NQ_fgt2 y3 | refine NQ_put ?_ (by simp)))⟩, by simp [g76], by simp [g77], by simp⟩
    repeat (first | exact NQ_fgt hq | refine NQ_put ?_ (by simp))
  · have hi' : i = 4 := by omega
    subst hi'
    simp [f35_l2, g77, g78]
    rw [hkk]
    clear ih hkk kk
    simp [g3, g4, q4, g5, q5, g6, q6, g8, q8, fillR, c2]
    refine loop_genR (α := Nat) (R := fun _ r => Tru r) (fun i e rg S' => i ≤ 3 ∧ NQ [2, 14, 15, 16, 99, 100, 101, 102, 103, 104, 105, 106, 107, 108, 109, 110, 111, 112, 113, 114, 115, 116] [14] e ∧ Inv35 f C O P e rg ∧ e 96 = .lst 3 true (L2.map T.cells) ∧ e 97 = .sc (.int .i64 3) ∧ e 98 = .sc (.int .i64 (i : Nat))) (fun i => 3 - i) (fun _ _ _ _ h => h.2.1) ?_ 0 _ _ _ ?_
    rotate_left
    · refine ⟨by omega, ?_, ⟨by simp [g3], by simp [g4], by simp [q4], by simp [g5], by simp [q5], by simp [g6], by simp [q6], by simp [g8], by simp [q8], by simp [z21], by simp [z22], by simp [z24], (by repeat (first | exact NQ_fgt2 y2 | exact NQ_fgt2 y3 | refine NQ_put ?_ (by simp))), (by repeat (first | exact NQ_fgt2 y2 | exact NQ_fgt2 y3 | refine NQ_put ?_ (by simp)))⟩, by simp, by simp [n2], by simp⟩
      repeat (first | exact NQ_fgt2 y2 | exact NQ_fgt2 y3 | refine NQ_put ?_ (by simp))
    intro kk hkk i e rg S' ⟨hi, hq, ⟨g3, g4, q4, g5, q5, g6, q6, g8, q8, z21, z22, z24, y2, y3⟩, g76, g77, g78⟩ ih
    by_cases hc : i < 3
    · obtain ⟨t, ht⟩ := get_of_lt (l := L2) (i := i) (by omega)
      have w2 : IntKind.i64.wrap ((i : Int) + 1) = ((i + 1 : Nat) : Int) := w64 (by omega)
      have hcall := r2 t (List.mem_of_getElem? ht)
      have hia : pev (.iaddr 3) [.lst 3 true (L2.map T.cells), .sc (.int .i64 (i : Nat))] = some (.iptr t.cells) := by
        rw [pev_iaddrL (by omega)]; simp [ht]
      have hc' : (i : Int) < 3 := by omega
      simp [f35_l1, g4, q4, g76, g77, g78, hc, hc', hia, hcall, w2]
      refine ih (i + 1) _ _ _ (by omega) (fun _ h => h) ?_
      refine ⟨by omega, ?_, ⟨by simp [g3], by simp [g4], by simp [q4], by simp [g5], by simp [q5], by simp [g6], by simp [q6], by simp [g8], by simp [q8], by simp [z21], by simp [z22], by simp [z24], (by repeat (first | exact NQ_fgt2 y2 | exact NQ_fgt2 y3 | refine NQ_put ?_ (by simp))), (by repeat (first | exact NQ_fgt2 y2 | exact NQ_fgt2 y3 | refine NQ_put ?_ (by simp)))⟩, by simp [g76], by simp [g77], by simp⟩
      repeat (first | exact NQ_fgt hq | refine NQ_put ?_ (by simp))
    · have hi' : i = 3 := by omega
      subst hi'
      simp [f35_l1, g77, g78]
      rw [hkk]
      clear ih hkk kk
      simp [g3, g4, q4, g5, q5, g6, q6, g8, q8, fillR, e153, c3]
      refine loop_genR (α := Nat) (R := fun _ r => Tru r) (fun i e rg S' => i ≤ 4 ∧ NQ [2, 18, 19, 20, 129, 130, 131, 132, 133, 134, 135, 136, 137, 138, 139, 140, 141, 142, 143, 144, 145] [18, 19] e ∧ Inv35 f C O P e rg ∧ e 126 = .lst 3 true (L3.map T.cells) ∧ e 127 = .sc (.int .i64 4) ∧ e 128 = .sc (.int .i64 (i : Nat))) (fun i => 4 - i) (fun _ _ _ _ h => h.2.1) ?_ 0 _ _ _ ?_
      rotate_left
      · refine ⟨by omega, ?_, ⟨by simp [g3], by simp [g4], by simp [q4], by simp [g5], by simp [q5], by simp [g6], by simp [q6], by simp [g8], by simp [q8], by simp [z21], by simp [z22], by simp [z24], (by repeat (first | exact NQ_fgt2 y2 | exact NQ_fgt2 y3 | refine NQ_put ?_ (by simp))), (by repeat (first | exact NQ_fgt2 y2 | exact NQ_fgt2 y3 | refine NQ_put ?_ (by simp)))⟩, by simp, by simp [n3], by simp⟩
        repeat (first | exact NQ_fgt2 y2 | exact NQ_fgt2 y3 | refine NQ_put ?_ (by simp))
      intro kk hkk i e rg S' ⟨hi, hq, ⟨g3, g4, q4, g5, q5, g6, q6, g8, q8, z21, z22, z24, y2, y3⟩, g76, g77, g78⟩ ih
      by_cases hc : i < 4
      · obtain ⟨t, ht⟩ := get_of_lt (l := L3) (i := i) (by omega)
        have w2 : IntKind.i64.wrap ((i : Int) + 1) = ((i + 1 : Nat) : Int) := w64 (by omega)
        have hcall := r3 t (List.mem_of_getElem? ht)
        have hia : pev (.iaddr 3) [.lst 3 true (L3.map T.cells), .sc (.int .i64 (i : Nat))] = some (.iptr t.cells) := by
          rw [pev_iaddrL (by omega)]; simp [ht]
        have hc' : (i : Int) < 4 := by omega
        simp [f35_l0, g4, q4, g76, g77, g78, hc, hc', hia, hcall, w2]
        refine ih (i + 1) _ _ _ (by omega) (fun _ h => h) ?_
        refine ⟨by omega, ?_, ⟨by simp [g3], by simp [g4], by simp [q4], by simp [g5], by simp [q5], by simp [g6], by simp [q6], by simp [g8], by simp [q8], by simp [z21], by simp [z22], by simp [z24], (by repeat (first | exact NQ_fgt2 y2 | exact NQ_fgt2 y3 | refine NQ_put ?_ (by simp))), (by repeat (first | exact NQ_fgt2 y2 | exact NQ_fgt2 y3 | refine NQ_put ?_ (by simp)))⟩, by simp [g76], by simp [g77], by simp⟩
        repeat (first | exact NQ_fgt hq | refine NQ_put ?_ (by simp))
      · have hi' : i = 4 := by omega
        subst hi'
        simp [f35_l0, g77, g78]
        rw [hkk]
        clear ih hkk kk
        simp [g3, g4, q4, g5, q5, g6, q6, g8, q8, z21, z22, z24, e157, e154b, e156b, resA, resU, lP, d, fd]
end
end Abs

namespace Abs
open Go

def sml17 (a : T) : T := if 100 < a.cnt then tAtom ⟨#[108, 97, 114, 103, 101]⟩ else a
theorem sml17_bb {a : T} (h : a.bb) : (sml17 a).bb := by
  unfold sml17; split
  · exact bb_atom (by show 5 ≤ _; omega)
  · exact h
def Fv.sml (f : Fv) : Fv := ⟨sml17 f.ak, sml17 f.user, sml17 f.body, sml17 f.x, sml17 f.y⟩
structure Fv.bb (f : Fv) : Prop where
  ak : f.ak.bb
  user : f.user.bb
  body : f.body.bb
  x : f.x.bb
  y : f.y.bb
theorem Fv.sml_bb {f : Fv} (h : f.bb) : f.sml.bb := ⟨sml17_bb h.ak, sml17_bb h.user, sml17_bb h.body, sml17_bb h.x, sml17_bb h.y⟩
section
variable {S : AS}
theorem s260 {a : T} (h : a.fits) : call 260 [.agg a.cells] S = some (.agg (sml17 a).cells, S) := by
  rw [call_calm a260 rfl (by simp) rfl]
  have e := fun S => @s142 a S h
  unfold sml17
  by_cases hc : 100 < a.cnt <;> simp [f260, f260b, e, hc]
theorem s147 {f : Fv} (h : f.bb) : call 147 [.agg f.cells] S = some (.agg f.sml.cells, S) := by
  rw [call_calm a147 rfl (by simp) rfl]
  have e1 := fun S => @s260 S f.ak (T.bb_fits h.ak)
  have e2 := fun S => @s260 S f.user (T.bb_fits h.user)
  have e3 := fun S => @s260 S f.body (T.bb_fits h.body)
  have e4 := fun S => @s260 S f.x (T.bb_fits h.x)
  have e5 := fun S => @s260 S f.y (T.bb_fits h.y)
  have hb := @Fv.build f.sml
  have q1 : f.sml.ak = sml17 f.ak := rfl
  have q2 : f.sml.user = sml17 f.user := rfl
  have q3 : f.sml.body = sml17 f.body := rfl
  have q4 : f.sml.x = sml17 f.x := rfl
  have q5 : f.sml.y = sml17 f.y := rfl
  rw [q1, q2, q3, q4, q5] at hb
  simp [-pev_build, f147, f147b, e1, e2, e3, e4, e5, hb]
set_option maxHeartbeats 8000000 in
set_option maxRecDepth 100000 in
theorem law32 {f0 : Fv} {p : T} {now at' : Int} (hf : f0.bb) (hp : p.bb) : call 32 [.agg f0.cells, .agg p.cells, .sc (.int .i64 now), .sc (.int .i64 at')] S = some (.sc (.bool true), S) := by
  rw [call_keep a32 (by simp) rfl]
  have e146 := @s146
  have e147 := fun S => @s147 S f0 hf
  have g := Fv.sml_bb hf
  generalize f0.sml = f at *
  have e142 := fun S => @s142 p S (T.bb_fits hp)
  obtain ⟨n, hn⟩ : ∃ n, n = now.tmod 1000000000000000 := ⟨_, rfl⟩
  obtain ⟨m, hm⟩ : ∃ m, m = at'.tmod 1000000000000000 := ⟨_, rfl⟩
  have n0 : n.natAbs < 1000000000000000 := by rw [hn, Int.natAbs_tmod]; exact Nat.mod_lt _ (by decide)
  have m0 : m.natAbs < 1000000000000000 := by rw [hm, Int.natAbs_tmod]; exact Nat.mod_lt _ (by decide)
  have p1 : pev (.bin .rem) [.sc (.int .i64 now), .sc (.int .i64 1000000000000000)] = some (.sc (.int .i64 n)) := by rw [hn]; rfl
  have p2 : pev (.bin .rem) [.sc (.int .i64 at'), .sc (.int .i64 1000000000000000)] = some (.sc (.int .i64 m)) := by rw [hm]; rfl
  have hi : inI n := by unfold inI; omega
  have bc := bb_chal (now := n) g.ak g.user g.body hi
  have e148 := fun S => @s148 S f.ak f.user f.body n hi
  have e150 := fun S => @s150 S f.ak f.user f.body n hi (by omega)
  have e149 := fun S => @s149 S f.ak f.user f.body p m hp (by omega)
  have e151 := fun S => @s151 S f.ak f.user f.body p m hp (by omega)
  have e149c := fun S => @s149 S f.ak f.user f.body (tChal f.ak f.user f.body n) m bc (by omega)
  have e151c := fun S => @s151 S f.ak f.user f.body (tChal f.ak f.user f.body n) m bc (by omega)
  have fc := T.bb_fits bc
  generalize chkT f.ak f.user f.body p m = k1 at *
  generalize chkT f.ak f.user f.body (tChal f.ak f.user f.body n) m = k2 at *
  generalize tChal f.ak f.user f.body n = C at *
  by_cases hc : 300 < p.cnt
  · simp [f32, f32b, e146, e147, e142, p1, p2, hc]
  · simp [f32, f32b, e146, e147, e142, p1, p2, hc, e148, e149, e149c, e150, e151, e151c, fc]
end
end Abs

namespace Abs
open Go

structure TokTy (P : Program) (k i : TypeId) (fs : Array Field) : Prop where
  hs : P.underlying k = some (.struct fs)
  hf : fs.toList.map (·.type) = [i, i, i, i, i, i]
  hi : P.underlying i = some (.int .i64)
structure FvTy (P : Program) (v t : TypeId) (fs : Array Field) : Prop where
  hs : P.underlying v = some (.struct fs)
  hf : fs.toList.map (·.type) = [t, t, t, t, t]
mutual
theorem T.bd_le {r b : Nat} (hr : r ≤ b) : ∀ {t : T}, t.bd r → t.bd b
  | .mk _ _ l, h => ⟨by have := h.1; omega, by have := h.2.1; omega, bdL_le hr h.2.2⟩
theorem bdL_le {r b : Nat} (hr : r ≤ b) : ∀ {l : List T}, bdL r l → bdL b l
  | [], _ => trivial
  | t :: l, h => ⟨T.bd_le hr h.1, bdL_le hr h.2⟩
end
theorem bb_of {t : T} (h : t.bd reachBytes) : t.bb := T.bd_le (by have e : reachBytes = 140737488351232 := rfl; omega) h
section
variable {H : Type} {P : Program} {t i s l : TypeId} {fs : Array Field} {r : Nat} {ts : List TypeId} {ds : List (DataW H)} {avs : List AV}
theorem ra_tok {k : TypeId} {fk : Array Field} (hK : TokTy P k i fk) (h : RdArgs P (k :: ts) ds avs) (hw : Rch P r (k :: ts) ds) : ∃ (u : Tk) (ds' : List (DataW H)) (m : List AV), avs = .agg u.cells :: m ∧ RdArgs P ts ds' m ∧ Rch P r ts ds' := by
  obtain ⟨d, ds', as, m, rfl, rfl, h1, h2⟩ := rdA_cons h
  obtain ⟨es, rfl, h⟩ := rd_struct hK.hs h1
  rw [argOf_struct hK.hs]
  have hfc := hK.hf
  have hi := hK.hi
  obtain ⟨fl⟩ := fk
  simp only at hfc
  have hlen : fl.length = 6 := by have := congrArg List.length hfc; simpa using this
  obtain ⟨f1, f2, f3, f4, f5, f6, rfl⟩ : ∃ f1 f2 f3 f4 f5 f6, fl = [f1, f2, f3, f4, f5, f6] := by
    match fl, hlen with
    | [f1, f2, f3, f4, f5, f6], _ => exact ⟨f1, f2, f3, f4, f5, f6, rfl⟩
  simp only [List.map_cons, List.map_nil, List.cons.injEq, and_true] at hfc
  obtain ⟨e1, e2, e3, e4, e5, e6⟩ := hfc
  obtain ⟨d1, q, a1, m1, rfl, rfl, g1, h⟩ := rdF_cons h
  obtain ⟨d2, q, a2, m2, rfl, rfl, g2, h⟩ := rdF_cons h
  obtain ⟨d3, q, a3, m3, rfl, rfl, g3, h⟩ := rdF_cons h
  obtain ⟨d4, q, a4, m4, rfl, rfl, g4, h⟩ := rdF_cons h
  obtain ⟨d5, q, a5, m5, rfl, rfl, g5, h⟩ := rdF_cons h
  obtain ⟨d6, q, a6, m6, rfl, rfl, g6, h⟩ := rdF_cons h
  obtain ⟨rfl, rfl⟩ := rdF_nil h
  rw [e1] at g1; rw [e2] at g2; rw [e3] at g3; rw [e4] at g4; rw [e5] at g5; rw [e6] at g6
  obtain ⟨x1, rfl, _, rfl⟩ := rd_int hi g1
  obtain ⟨x2, rfl, _, rfl⟩ := rd_int hi g2
  obtain ⟨x3, rfl, _, rfl⟩ := rd_int hi g3
  obtain ⟨x4, rfl, _, rfl⟩ := rd_int hi g4
  obtain ⟨x5, rfl, _, rfl⟩ := rd_int hi g5
  obtain ⟨x6, rfl, _, rfl⟩ := rd_int hi g6
  exact ⟨⟨x1, x2, x3, x4, x5, x6⟩, ds', m, rfl, h2, (rch_cons hw).2⟩
theorem ra_five {v : TypeId} {fv : Array Field} (hT : TermTy P t i s l fs) (hV : FvTy P v t fv) (h : RdArgs P (v :: ts) ds avs) (hw : Rch P r (v :: ts) ds) : ∃ (f : Fv) (ds' : List (DataW H)) (m : List AV), avs = .agg f.cells :: m ∧ (f.ak.bd r ∧ f.user.bd r ∧ f.body.bd r ∧ f.x.bd r ∧ f.y.bd r) ∧ RdArgs P ts ds' m ∧ Rch P r ts ds' := by
  obtain ⟨d, ds', as, m, rfl, rfl, h1, h2⟩ := rdA_cons h
  obtain ⟨w1, w2⟩ := rch_cons hw
  obtain ⟨es, rfl, h⟩ := rd_struct hV.hs h1
  rw [argOf_struct hV.hs]
  have hfc := hV.hf
  have hvs := hV.hs
  obtain ⟨fl⟩ := fv
  simp only at hfc
  have hlen : fl.length = 5 := by have := congrArg List.length hfc; simpa using this
  obtain ⟨f1, f2, f3, f4, f5, rfl⟩ : ∃ f1 f2 f3 f4 f5, fl = [f1, f2, f3, f4, f5] := by
    match fl, hlen with
    | [f1, f2, f3, f4, f5], _ => exact ⟨f1, f2, f3, f4, f5, rfl⟩
  simp only [List.map_cons, List.map_nil, List.cons.injEq, and_true] at hfc
  obtain ⟨e1, e2, e3, e4, e5⟩ := hfc
  obtain ⟨d1, q, a1, m1, rfl, rfl, g1, h⟩ := rdF_cons h
  obtain ⟨d2, q, a2, m2, rfl, rfl, g2, h⟩ := rdF_cons h
  obtain ⟨d3, q, a3, m3, rfl, rfl, g3, h⟩ := rdF_cons h
  obtain ⟨d4, q, a4, m4, rfl, rfl, g4, h⟩ := rdF_cons h
  obtain ⟨d5, q, a5, m5, rfl, rfl, g5, h⟩ := rdF_cons h
  obtain ⟨rfl, rfl⟩ := rdF_nil h
  have hw : (DataW.weightsEach P [f1.type, f2.type, f3.type, f4.type, f5.type] [d1, d2, d3, d4, d5]).all (· ≤ r) = true := by
    simpa only [DataW.weights, hvs, List.map_cons, List.map_nil] using w1
  rw [e1, e2, e3, e4, e5] at hw
  simp only [DataW.weightsEach, List.append_nil, List.all_append, Bool.and_eq_true] at hw
  rw [e1] at g1; rw [e2] at g2; rw [e3] at g3; rw [e4] at g4; rw [e5] at g5
  obtain ⟨x1, rfl, _, b1, _⟩ := (term_of_rd hT isBulk_own (sizeOf d1 + 1)).1 d1 a1 (by omega) g1
  obtain ⟨x2, rfl, _, b2, _⟩ := (term_of_rd hT isBulk_own (sizeOf d2 + 1)).1 d2 a2 (by omega) g2
  obtain ⟨x3, rfl, _, b3, _⟩ := (term_of_rd hT isBulk_own (sizeOf d3 + 1)).1 d3 a3 (by omega) g3
  obtain ⟨x4, rfl, _, b4, _⟩ := (term_of_rd hT isBulk_own (sizeOf d4 + 1)).1 d4 a4 (by omega) g4
  obtain ⟨x5, rfl, _, b5, _⟩ := (term_of_rd hT isBulk_own (sizeOf d5 + 1)).1 d5 a5 (by omega) g5
  exact ⟨⟨x1, x2, x3, x4, x5⟩, ds', m, by rw [List.append_nil]; rfl, ⟨b1 r hw.1, b2 r hw.2.1, b3 r hw.2.2.1, b4 r hw.2.2.2.1, b5 r hw.2.2.2.2⟩, h2, w2⟩
end
end Abs
