/- Part 7 of a proof of a law over the program: Body6, Body7, Body8, Body9, Body10, Body11, Shelf, Sort, Lies. Conditions: none beyond what each statement says. -/
import Derived.Test.YtjckojnlapchoaaGreatQ06
import Derived.Test.YtjckojnlapchoaaGreatQ01
import Derived.Shelf.Sort.Plain
import Derived.Ground.Names2Prog
import Derived.Shelf.Slices.CompactI
import Derived.Test.YtjckojnlapchoaaGreatProg
import Derived.Test.YtjckojnlapchoaaGreatQ02
import Derived.Shelf.Slices.In.SortNone
set_option linter.unusedVariables false
set_option linter.unusedSimpArgs false
open Go Go.RowKit
namespace Go.Proofs.YtjckojnlapchoaaGreat
open Go.Proofs
def NetD.hasF (N : NetD) : List Port → Int → Int
  | [], m => m
  | x :: r, m => N.hasF r (m + N.p.length x.elem)
def NetD.has (N : NetD) (b : Body) : Int := N.hasF (b.trail.drop 1) (b.over - b.left)
set_option maxRecDepth 20000 in
set_option maxHeartbeats 1000000 in
theorem has_ok {G : Gh} {H : List (Nat × Obj)} {W : World} (hp : Hp G H W) {g : Nat} {N : NetD} (h : NetAt G g N) {A1 : Option Addr} {n1 c1 : Nat} {b : Body} (bt : Body.At G A1 n1 c1 b) (hnum : numbersOk N.p = true) (hne : b.trail ≠ []) (hn : n1 ≤ 1000000) (ho : -1000000 ≤ b.over - b.left ∧ b.over - b.left ≤ 1000000) : Calls Tryz.prog 65 ⟨[.pointer (some ⟨g, 0, none⟩), .agg ⟨[.int .i64 b.mode, .slice A1 n1 c1, .int .i64 b.left, .int .i64 b.over, .int .i64 b.v]⟩]⟩ W (RetS G H (.int .i64 (N.has b))) := by
  have hl := bt.h1.length
  have hpos : 0 < b.trail.length := List.length_pos_iff.2 hne
  obtain ⟨A2, hA2⟩ : ∃ A', (if c1 = 1 then A1 else cutA A1 1 2) = A' := ⟨_, rfl⟩
  have hd1 : Sl tPort G A2 (n1 - 1) (c1 - 1) (b.trail.drop 1) := by have := bt.h1.drop (k := 1) (by omega); rw [← hA2]; exact this
  have hdl := hd1.length
  refine enter Tryz.func65 rfl Tryz.ntmps65 (Nat.le_of_ble_eq_true rfl) hp (nx_seq (nx_region ?_))
  refine nx_op rfl (op_box rfl rfl (fun b3 => ?_))
  refine nv v_assign (nx_nil (nx_then (nx_seq (nx_region (nv v_fieldAddr (nv v_load1_o (nv v_fieldAddr (nv v_load1_o (nv v_sub (nv v_assign (nx_nil ?_)))))))))))
  refine nx_then (nx_seq (nx_seq (nx_region (nv v_fieldAddr (nv v_load1_o ?_)))))
  refine nv ((by rw [← hA2]; exact v_slice_lo (k := 1) rfl rfl rfl (by omega) : OpV _ _ _ _ _ _ 15 (.slice A2 (n1 - 1) (c1 - 1)))) ?_
  refine nv v_len (nv v_move (nx_nil (nx_then (nx_block ?_))))
  refine nx_loop_v (σ := Nat × Int) [0, 1, 3, 4, 8, 9, 10, 11, 12, 13, 14, 15, 16] (fun s => [(17, .int .i64 (s.1 : Int)), (5, .int .i64 s.2)]) (fun _ => G) (fun _ => _) (fun s => N.hasF ((b.trail.drop 1).drop s.1) s.2 = N.has b ∧ s.1 ≤ n1 ∧ -1000000 ≤ s.2 ∧ s.2 ≤ 1000000 + 4000 * (s.1 : Int)) (fun s => n1 - 1 - s.1) (0, b.over - b.left) (.cons rfl (.cons rfl (.cons rfl (.cons rfl (.cons rfl (.cons rfl (.cons rfl (.cons rfl (.cons rfl (.cons rfl (.cons rfl (.cons rfl (.cons rfl (.nil)))))))))))))) ⟨rfl, rfl, trivial⟩ ⟨rfl, by omega, by omega, by dsimp only; omega⟩ rfl rfl ?_
  rintro ⟨k, m⟩ ⟨hI, h1, h2, h3⟩ K next
  dsimp only at hI h1 h2 h3 ⊢
  refine nx_seq (nx_region (nv v_lss (nx_nil (nx_then (nx_seq ?_)))))
  refine nx_cond_dec rfl (fun c18 => ?_) (fun c18 => ?_)
  obtain ⟨x, rest, hd, hx⟩ := drop_of_lt (xs := b.trail.drop 1) (k := k) (by omega)
  obtain ⟨xb, xo, xe, xk, xr, xf0, xf1⟩ := next_Port hd1 hd
  cases xe
  rw [hd] at hI
  have hrx := Plan.length_range hnum x.elem
  refine nx_skip (nx_then (nx_seq (nx_block (nx_seq (nx_region (nv (v_indexAddr_nat rfl rfl rfl (by omega)) (nv v_load_s ?_)))))))
  refine nx_op rfl (op_alloc rfl (fun b7 => ?_))
  refine st (k := nx_nil (nx_then (nx_region (nv v_move (nv v_move (nv v_fieldAddr (nv v_load1_o ?_)))))))
  refine nx_op rfl (op_callS rfl rfl rfl (fun W hp => length_ok hp h x.elem) ?_)
  refine nv v_add (nv v_assign (nx_nil (nx_in _ (nx_then (nx_region (nv v_add (nv v_move (nx_nil (nx_then ?_)))))))))
  exact nn (next (k + 1, m + N.p.length x.elem) ⟨(by rw [xr]; exact hI), (by omega), (by dsimp only; omega), (by dsimp only; omega)⟩ (by dsimp only; omega))
  refine nx_exit (nx_then_exit (nx_then_exit (nx_in_eq (nx_then (nx_seq (nx_region (nv v_move (nv v_assign (nx_nil (nx_then (nx_ret ?_)))))))))))
  exact nx_ret1 rfl (.tmp rfl) (rs (by rw [← hI, List.drop_eq_nil_of_le (by omega)]; rfl))
end Go.Proofs.YtjckojnlapchoaaGreat
open Go Go.RowKit
namespace Go.Proofs.YtjckojnlapchoaaGreat
open Go.Proofs
def NetD.goPos (pos : List Int) (e : Int) : Int := if e < (pos.length : Int) then (pos[e.toNat]?).getD 0 else 0
def NetD.runF (N : NetD) (pos : List Int) : Nat → Body → Int → Body
  | 0, b, _ => b
  | k + 1, b, m =>
    if m ≤ 0 then b else
    let step := max 0 (min m b.left)
    let b1 := { b with left := max (b.left - step) 0 }
    let m1 := m - step
    if m1 = 0 then b1 else
    match getK N.next (b1.head.getD ⟨0, 0⟩) with
    | none => { b1 with v := 0 }
    | some x =>
      if N.p.kind x.elem = 4 then { b1 with over := b1.over + m1 } else
      match through N.p x.elem x.fin (NetD.goPos pos x.elem) with
      | none => { b1 with v := 0, mode := if b1.mode = 2 then 4 else b1.mode }
      | some o => NetD.runF N pos k { b1 with mode := 2, trail := b1.trail ++ [⟨x.elem, o⟩], left := N.p.length x.elem } m1
def NetD.run (N : NetD) (pos : List Int) (b : Body) (m : Int) : Body := N.runF pos (m.toNat + 2) b m
def bodyRow (b : Body) (v : Value) : List Value := [.int .i64 b.mode, v, .int .i64 b.left, .int .i64 b.over, .int .i64 b.v]
def OwnB (bb : Nat) (b : Body) (G : Gh) (H H' : List (Nat × Obj)) : Prop := ∃ v N, H' = (bb, row (bodyRow b v) 33) :: (N ++ H) ∧ OwnS tPort 71 G b.trail v N
structure NetD.Ok (N : NetD) : Prop where
  num : numbersOk N.p = true
  small : N.p.Small
  next : Mp N.p N.next
theorem netOf_ok {p : Plan} (h : planCheck p = 0) : (netOf p).Ok := by
  obtain ⟨_, h2, _, nx, hj, _⟩ := planCheck_ok h
  refine ⟨h2, Plan.small h, ?_⟩
  show Mp p (nextF p.joins [])
  rw [joined_next hj]
  exact joined_mp hj
theorem Plan.length_pos {p : Plan} (h : numbersOk p = true) {e : Int} (h1 : ¬ p.kind e = 4) (h2 : ¬ ends (p.kind e) ≤ 0) : 1 ≤ p.length e := by
  simp only [numbersOk, Bool.and_eq_true] at h
  have hall := List.all_eq_true.1 h.1.1.2
  unfold Plan.kind Plan.elem at h1 h2
  unfold Plan.length Plan.elem
  split at h1
  · rename_i hneg; rw [if_pos hneg] at h2; simp [noElem, ends] at h2
  · rename_i hneg
    rw [if_neg hneg] at h2 ⊢
    cases hx : p.elems[e.toNat]? with
    | none => rw [hx] at h2; simp [noElem, ends] at h2
    | some x =>
      rw [hx] at h1
      have := hall x (List.mem_of_getElem? hx)
      simp only [elemOk, Bool.and_eq_true] at this
      have h3 := this.2
      simp only [Option.getD_some] at h1 ⊢
      rw [if_neg h1] at h3
      simp at h3; omega
end Go.Proofs.YtjckojnlapchoaaGreat
open Go Go.RowKit
namespace Go.Proofs.YtjckojnlapchoaaGreat
open Go.Proofs
structure RunI (N : NetD) (pos : List Int) (b0 : Body) (m0 : Int) (G0 : Gh) (k : Nat) (b : Body) (m : Int) (v : Value) (Nb : List (Nat × Obj)) (G : Gh) : Prop where
  le : G0.le G
  own : OwnS tPort 71 G b.trail v Nb
  spec : N.runF pos k b m = N.run pos b0 m0
  mm : m ≤ 60
  left : 0 ≤ b.left ∧ b.left ≤ 4000
  over : 0 ≤ b.over ∧ b.over ≤ 4000
  ne : b.trail ≠ []
  len : b.trail.length + k ≤ 2000000
  fuel : m.toNat + (if 0 < b.left then 1 else 2) ≤ k
theorem head_last {b : Body} {x : Port} (h : b.trail[b.trail.length - 1]? = some x) : b.head = some x := by
  unfold Body.head; rw [List.getLast?_eq_getElem?]; exact h
theorem through_ends {p : Plan} {e i pos o : Int} (h : through p e i pos = some o) : ¬ ends (p.kind e) ≤ 0 := by
  intro hle
  unfold through outs at h
  rw [if_pos (by omega)] at h
  cases h
set_option maxRecDepth 20000 in
set_option maxHeartbeats 1000000 in
theorem runs_ok {G : Gh} {H : List (Nat × Obj)} {W : World} {bb : Nat} {b0 : Body} {v0 : Value} {N0 : List (Nat × Obj)} {m0 : Int} (hp : Hp G ((bb, row (bodyRow b0 v0) 33) :: (N0 ++ H)) W) (ho0 : OwnS tPort 71 G b0.trail v0 N0) {g : Nat} {N : NetD} (h : NetAt G g N) (hN : N.Ok)
    {A : Option Addr} {n c : Nat} {pos : List Int} (hs : Sl tInt G A n c pos) (hm0 : m0 ≤ 60) (hl0 : 0 ≤ b0.left ∧ b0.left ≤ 4000) (hov0 : 0 ≤ b0.over ∧ b0.over ≤ 4000) (hne0 : b0.trail ≠ []) (hn0 : b0.trail.length ≤ 1000000) :
    Calls Tryz.prog 64 ⟨[.pointer (some ⟨g, 0, none⟩), .slice A n c, .pointer (some ⟨bb, 0, none⟩), .int .i64 m0]⟩ W (Ret G (fun G' H' v => v = .tuple #[] ∧ OwnB bb (N.run pos b0 m0) G' H H')) := by
  have hsl := hs.length
  refine enter Tryz.func64 rfl Tryz.ntmps64 (Nat.le_of_ble_eq_true rfl) hp (nx_scope (nx_seq (nx_label (nx_then (nx_block ?_)))))
  refine nx_loop_v (σ := Nat × Body × Int × Value × List (Nat × Obj) × Gh) [0, 1, 2] (fun s => [(3, .int .i64 s.2.2.1)]) (fun s => s.2.2.2.2.2) (fun s => (bb, row [.int .i64 s.2.1.mode, s.2.2.2.1, .int .i64 s.2.1.left, .int .i64 s.2.1.over, .int .i64 s.2.1.v] 33) :: (s.2.2.2.2.1 ++ H)) (fun s => RunI N pos b0 m0 G s.1 s.2.1 s.2.2.1 s.2.2.2.1 s.2.2.2.2.1 s.2.2.2.2.2) (fun s => s.1) (m0.toNat + 2, b0, m0, v0, N0, G) (.cons rfl (.cons rfl (.cons rfl (.nil)))) ⟨rfl, trivial⟩ ⟨Gh.le.refl _, ho0, rfl, hm0, hl0, hov0, hne0, by dsimp only; omega, by dsimp only; split <;> omega⟩ rfl rfl ?_
  rintro ⟨k, b, m, v, Nb, G1⟩ ⟨le1, ho, hI, hm, hl, hov, hne, hlen, hfu⟩ K next
  dsimp only at le1 ho hI hm hl hov hne hlen hfu ⊢
  refine nx_seq (nx_seq (nx_region (nv v_move (nv v_gtr (nx_nil (nx_then ?_))))))
  refine nx_cond_dec rfl (fun c15 => ?_) (fun c15 => ?_)
  obtain ⟨k, rfl⟩ : ∃ j, k = j + 1 := ⟨k - 1, by split at hfu <;> omega⟩
  have hI0 := hI
  simp only [NetD.runF] at hI0
  rw [if_neg (by omega)] at hI0
  refine nx_skip (nx_then (nx_block (nx_seq (nx_region (nv v_move (nv v_move (nv v_nilCheck (nv v_fieldAddr (nv v_load1_o (nv v_min (nv v_max ?_)))))))))))
  refine nv v_assign (nx_nil (nx_then (nx_seq (nx_region (nv v_move (nv v_move (nv v_nilCheck (nv v_fieldAddr (nv v_load1_o (nv v_move (nv v_sub ?_)))))))))))
  refine nv v_max (nv v_move (nv v_move (nv v_sub (nv v_nilCheck (nv v_fieldAddr (st (k := nv v_assign (nx_nil (nx_then (nx_seq (nx_seq ?_)))))))))))
  refine nx_region (nv v_move (nv v_eql (nx_nil (nx_then ?_))))
  refine nx_cond_dec rfl (fun c37 => ?_) (fun c37 => ?_)
  have hE : N.run pos b0 m0 = { b with left := max (b.left - max 0 (min m b.left)) 0 } := by rw [← hI0, if_pos c37]
  refine nx_exit (nx_then_exit (nx_in_ne rfl (nx_then_exit (nx_in_eq (nx_ng ?_)))))
  rw [hE]
  exact nx_end0 rfl (fun W hp => ⟨_, _, _, rfl, le1, ⟨rfl, _, _, rfl, (by exact ho)⟩, Suf.hp (by repeat (first | exact Suf.refl | apply Suf.keep | apply Suf.cons | apply Suf.keepN | apply Suf.app)) hp⟩)
  rw [if_neg c37] at hI0
  have hlz : max (b.left - max 0 (min m b.left)) 0 = 0 := by omega
  have hpos : 0 < b.trail.length := List.length_pos_iff.2 hne
  obtain ⟨x, hx⟩ : ∃ x, b.trail[b.trail.length - 1]? = some x := ⟨_, List.getElem?_eq_getElem (by omega)⟩
  obtain ⟨bt, ct, cs, r, rfl, rfl, hR, hlenr, hfit, hcs⟩ := ho.get hx
  obtain rfl : cs = x.cells := hR
  have hhd : Body.head { b with left := max (b.left - max 0 (min m b.left)) 0 } = some x := head_last hx
  rw [hhd] at hI0
  simp only [Option.getD_some] at hI0
  refine nx_skip (nx_then (nx_seq (dr_begin 20 (.q 0 (.q 1 (.q 2 (.q 3 (.q 4 (.q 5 (.q 6 (.q 7 (.q 8 (.q 9 (.q 10 (.q 11 (.q 12 (.b 13 17 (.q 14 (.q 15 (.q 16 (.l 17 (.l 18 (.q 19 .done)))))) (.l 13 (.q 14 (.q 15 (.q 16 (.l 18 (.q 19 .done)))))))))))))))))))) rfl (by kernel_rfl) (dr_q rfl rfl v_move ic (dr_q rfl rfl v_move ic (dr_q rfl rfl v_nilCheck ic (dr_q rfl rfl v_fieldAddr ic (dr_q rfl rfl v_load1_o ic (dr_q rfl rfl v_move ic (dr_q rfl rfl v_nilCheck ic (dr_q rfl rfl v_fieldAddr ic ?_)))))))))))
  refine dr_q rfl rfl v_load1_o ic (dr_q rfl rfl v_len ic (dr_q rfl rfl v_sub ic ?_))
  refine dr_q rfl rfl (v_indexAddr_nat (k := b.trail.length - 1) rfl rfl (by rw [show ((b.trail.length - 1 : Nat) : Int) = (b.trail.length : Int) - 1 by omega]; rfl) (by omega)) ic ?_
  refine dr_q rfl rfl (v_load_o rfl rfl (.cons (OwnAt.of (r := x.cells) hcs (by rw [Nat.zero_add]; rfl)))) ic ?_
  refine dr_b rfl rfl rfl rfl ?_ ?_
  refine op_callS rfl rfl rfl (fun W hp => next_ok hp (h.le le1) x) ?_
  refine dr_k ic (dr_q rfl rfl v_move ic (dr_q rfl rfl (v_extract rfl rfl rfl) ic (dr_q rfl rfl (v_extract rfl rfl rfl) ic (dr_l rfl rfl ?_))))
  refine op_alloc rfl (fun b9 => ?_)
  refine dr_k (ic.cons _) (dr_l rfl rfl ?_)
  refine op_sto rfl rfl rfl rfl rfl (by repeat (first | exact UpdS.here rfl | apply UpdS.cons | apply UpdS.app)) ?_
  refine dr_k (ic.cons _) (dr_q rfl rfl v_assign (ic.cons _) (dr_end rfl ?_))
  refine nx_nil (nx_np ?_)
  refine nx_then (nx_seq (nx_seq (nx_region (nv v_move (nv v_not (nx_nil (nx_then ?_)))))))
  refine nx_cond rfl (fun c56 => ?_) (fun c56 => ?_)
  have hnx : getK N.next x = none := by cases hq : getK N.next x with | none => rfl | some y => rw [hq] at c56; simp at c56
  rw [hnx] at hI0
  have hE : N.run pos b0 m0 = { b with left := max (b.left - max 0 (min m b.left)) 0, v := 0 } := hI0.symm
  refine nx_seq (nx_region (nv v_move (nv v_nilCheck (nv v_fieldAddr (st (k := nx_nil (nx_then (nx_exit (nx_then_exit (nx_in_ne rfl (nx_then_exit ?_)))))))))))
  refine nx_in_eq (nx_ng ?_)
  rw [hE]
  exact nx_end0 rfl (fun W hp => ⟨_, _, _, rfl, le1, ⟨rfl, _, _, rfl, (by exact ho)⟩, Suf.hp (by repeat (first | exact Suf.refl | apply Suf.keep | apply Suf.cons | apply Suf.keepN | apply Suf.app)) hp⟩)
  obtain ⟨y, hnx⟩ : ∃ y, getK N.next x = some y := by cases hq : getK N.next x with | none => rw [hq] at c56; simp at c56 | some y => exact ⟨y, rfl⟩
  have hyd : (getK N.next x).getD ⟨0, 0⟩ = y := by rw [hnx]; rfl
  rw [hnx] at hI0
  simp only at hI0
  rw [hyd]
  obtain ⟨yk, hyk, hyl, hyf⟩ := Plan.isPort_elem (hN.next _ _ hnx)
  refine nx_skip (nx_then (nx_seq (nx_seq (nx_region (nv v_move (nv v_fieldAddr (nv v_load1_o ?_)))))))
  refine nx_op rfl (op_callS rfl rfl rfl (fun W hp => kind_ok hp (h.le le1) y.elem) ?_)
  refine nv v_eql (nx_nil (nx_then ?_))
  refine nx_cond_dec rfl (fun c64 => ?_) (fun c64 => ?_)
  rw [if_pos c64] at hI0
  have hE : N.run pos b0 m0 = { b with left := max (b.left - max 0 (min m b.left)) 0, over := b.over + (m - max 0 (min m b.left)) } := hI0.symm
  refine nx_seq (nx_region (nv v_move (nv v_nilCheck (nv v_fieldAddr (nv v_load1_o (nv v_move (nv v_add (nv v_nilCheck (nv v_fieldAddr (st (k := nx_nil ?_)))))))))))
  refine nx_then (nx_exit (nx_then_exit (nx_in_ne rfl (nx_then_exit (nx_in_eq (nx_ng ?_))))))
  rw [hE]
  exact nx_end0 rfl (fun W hp => ⟨_, _, _, rfl, le1, ⟨rfl, _, _, rfl, (by exact ho)⟩, Suf.hp (by repeat (first | exact Suf.refl | apply Suf.keep | apply Suf.cons | apply Suf.keepN | apply Suf.app)) hp⟩)
  rw [if_neg c64] at hI0
  refine nx_skip (nx_then (nx_seq (nx_region (nv v_assign (nx_nil (nx_then (nx_seq (nx_seq (nx_region (nv v_fieldAddr (nv v_load1_o ?_)))))))))))
  refine nv v_move (nv v_len (nv v_lss (nx_nil (nx_then ?_))))
  refine nx_cond_dec rfl (fun c77 => ?_) (fun c77 => ?_)
  obtain ⟨q, hq⟩ : ∃ q, pos[yk]? = some q := ⟨_, List.getElem?_eq_getElem (by omega)⟩
  obtain ⟨qb, qo, qe, qk, qf0⟩ := get_Int (hs.le le1) hq
  cases qe
  have hgp : NetD.goPos pos y.elem = q := by unfold NetD.goPos; rw [if_pos (by omega), hyk, Int.toNat_natCast, hq]; rfl
  rw [hgp] at hI0
  refine nx_region (nv v_move (nv v_fieldAddr (nv v_load1_o ?_)))
  refine nv (v_indexAddr_nat (k := yk) rfl rfl (by rw [← hyk]; rfl) (by omega)) ?_
  refine nv v_load1_s (nv v_assign (nx_nil (nx_then (nx_seq (nx_region (nv v_move (nv v_fieldAddr (nv v_load1_o (nv v_fieldAddr (nv v_load1_o (nv v_move ?_)))))))))))
  refine nx_op rfl (op_callD rfl rfl rfl (fun W hp => through_ok hp (h.le le1) y.elem y.fin _) (fun v90 G90 le90 ph90 => ?_))
  subst ph90
  refine nv v_move (nv (v_extract rfl rfl rfl) (nv (v_extract rfl rfl rfl) (nv v_assign (nv v_assign (nx_nil (nx_then (nx_seq (nx_seq (nx_region (nv v_move (nv v_not ?_)))))))))))
  refine nx_nil (nx_then ?_)
  refine nx_cond rfl (fun c94 => ?_) (fun c94 => ?_)
  have hth : ∀ {α : Type} (o : Option α), (!o.isSome) = true → o = none := by intro α o; cases o <;> simp
  rw [hth _ c94] at hI0
  simp only at hI0
  refine nx_seq (nx_region (nv v_move (nv v_nilCheck (nv v_fieldAddr (st (k := nx_nil (nx_then (nx_seq (nx_seq (nx_region (nv v_move ?_)))))))))))
  refine nv v_nilCheck (nv v_fieldAddr (nv v_load1_o (nv v_eql (nx_nil (nx_then ?_)))))
  refine nx_cond_dec rfl (fun c102 => ?_) (fun c102 => ?_)
  have hE : N.run pos b0 m0 = { b with left := max (b.left - max 0 (min m b.left)) 0, v := 0, mode := 4 } := by rw [← hI0, if_pos c102]
  refine nx_region (nv v_move (nv v_nilCheck (nv v_fieldAddr (st (k := nx_nil (nx_then (nx_exit (nx_then_exit (nx_in_ne rfl (nx_then_exit (nx_in_eq ?_)))))))))))
  refine nx_ng ?_
  rw [hE]
  exact nx_end0 rfl (fun W hp => ⟨_, _, _, rfl, (Gh.le.trans le1 le90), ⟨rfl, _, _, rfl, (by exact ho.le le90)⟩, Suf.hp (by repeat (first | exact Suf.refl | apply Suf.keep | apply Suf.cons | apply Suf.keepN | apply Suf.app)) hp⟩)
  have hE : N.run pos b0 m0 = { b with left := max (b.left - max 0 (min m b.left)) 0, v := 0 } := by rw [← hI0, if_neg c102]
  refine nx_skip (nx_then (nx_exit (nx_then_exit (nx_in_ne rfl (nx_then_exit (nx_in_eq (nx_ng ?_)))))))
  rw [hE]
  exact nx_end0 rfl (fun W hp => ⟨_, _, _, rfl, (Gh.le.trans le1 le90), ⟨rfl, _, _, rfl, (by exact ho.le le90)⟩, Suf.hp (by repeat (first | exact Suf.refl | apply Suf.keep | apply Suf.cons | apply Suf.keepN | apply Suf.app)) hp⟩)
  obtain ⟨o, hth⟩ := Option.isSome_iff_exists.1 (by simpa using c94)
  have hgd : (through N.p y.elem y.fin (NetD.goPos pos y.elem)).getD 0 = o := by rw [hgp, hth]; rfl
  rw [hgp] at hgd
  rw [hgd]
  rw [hth] at hI0
  simp only at hI0
  have hlp := Plan.length_pos hN.num c64 (through_ends hth)
  have hlr := Plan.length_range hN.num y.elem
  refine nx_skip (nx_then (nx_seq (nx_region (nv v_move (nv v_nilCheck (nv v_fieldAddr (st (k := nx_nil (nx_then (nx_seq (nf (b := bt) (k := ?_))))))))))))
  refine dr_begin_cons 13 (.q 0 (.q 1 (.q 2 (.q 3 (.q 4 (.q 5 (.q 6 (.q 7 (.q 8 (.l 9 (.l 10 (.q 11 (.q 12 .done))))))))))))) rfl (by kernel_rfl) (dr_q rfl rfl v_move (ic.cons _) (dr_q rfl rfl v_move (ic.cons _) (dr_q rfl rfl v_nilCheck (ic.cons _) (dr_q rfl rfl v_fieldAddr (ic.cons _) (dr_q rfl rfl v_load1_o (ic.cons _) (dr_q rfl rfl v_fieldAddr (ic.cons _) (dr_q rfl rfl v_load1_o (ic.cons _) (dr_q rfl rfl v_move (ic.cons _) (dr_q rfl rfl (v_build rfl rfl rfl) (ic.cons _) (dr_l rfl rfl ?_))))))))))
  refine op_buildSlice rfl rfl rfl rfl rfl (fun b118 => ?_)
  refine dr_k ((ic.cons _).cons _) (dr_l rfl rfl ?_)
  refine op_append (T := tPort) (N := [(bt, row r _)]) rfl rfl rfl (ho.le le90) (by repeat (first | exact Pull.here | apply Pull.cons | apply Pull.app)) (Src.row List.mem_cons_self (rows_Port [⟨y.elem, o⟩]) rfl) (by simp; omega) (by simp [maxLen]; omega) (fun v119 N119 o119 => ?_)
  obtain ⟨A119, c119, rfl, hc119⟩ := o119.val
  refine dr_k ((ic.cons _).app _) (dr_q rfl rfl v_nilCheck ((ic.cons _).app _) (dr_q rfl rfl v_fieldAddr ((ic.cons _).app _) (dr_end rfl (st (k := ?_)))))
  refine nx_nil (nx_np ?_)
  refine nx_then (nx_region (nv v_move (nv v_move (nv v_fieldAddr (nv v_load1_o ?_)))))
  refine nx_op rfl (op_callS rfl rfl rfl (fun W hp => length_ok hp (h.le (Gh.le.trans le1 le90)) y.elem) ?_)
  refine nv v_nilCheck (nv v_fieldAddr (st (k := nx_nil (nx_in _ (nx_then (nf (b := bb) (k := ?_)))))))
  exact nn (next (k, { b with mode := 2, trail := b.trail ++ [⟨y.elem, o⟩], left := N.p.length y.elem }, m - max 0 (min m b.left), .slice A119 _ c119, N119, _) ⟨(Gh.le.trans le1 le90), o119, hI0, (by dsimp only; omega), (by dsimp only; omega), hov, (by simp), (by dsimp only; simp; omega), (by dsimp only; rw [if_pos (by omega)]; split at hfu <;> omega)⟩ (by dsimp only; omega))
  have hgp : NetD.goPos pos y.elem = 0 := by unfold NetD.goPos; rw [if_neg (by omega)]
  rw [hgp] at hI0
  refine nx_skip (nx_then (nx_seq (nx_region (nv v_move (nv v_fieldAddr (nv v_load1_o (nv v_fieldAddr (nv v_load1_o (nv v_move ?_)))))))))
  refine nx_op rfl (op_callD rfl rfl rfl (fun W hp => through_ok hp (h.le le1) y.elem y.fin _) (fun v90 G90 le90 ph90 => ?_))
  subst ph90
  refine nv v_move (nv (v_extract rfl rfl rfl) (nv (v_extract rfl rfl rfl) (nv v_assign (nv v_assign (nx_nil (nx_then (nx_seq (nx_seq (nx_region (nv v_move (nv v_not ?_)))))))))))
  refine nx_nil (nx_then ?_)
  refine nx_cond rfl (fun c94 => ?_) (fun c94 => ?_)
  have hth : ∀ {α : Type} (o : Option α), (!o.isSome) = true → o = none := by intro α o; cases o <;> simp
  rw [hth _ c94] at hI0
  simp only at hI0
  refine nx_seq (nx_region (nv v_move (nv v_nilCheck (nv v_fieldAddr (st (k := nx_nil (nx_then (nx_seq (nx_seq (nx_region (nv v_move ?_)))))))))))
  refine nv v_nilCheck (nv v_fieldAddr (nv v_load1_o (nv v_eql (nx_nil (nx_then ?_)))))
  refine nx_cond_dec rfl (fun c102 => ?_) (fun c102 => ?_)
  have hE : N.run pos b0 m0 = { b with left := max (b.left - max 0 (min m b.left)) 0, v := 0, mode := 4 } := by rw [← hI0, if_pos c102]
  refine nx_region (nv v_move (nv v_nilCheck (nv v_fieldAddr (st (k := nx_nil (nx_then (nx_exit (nx_then_exit (nx_in_ne rfl (nx_then_exit (nx_in_eq ?_)))))))))))
  refine nx_ng ?_
  rw [hE]
  exact nx_end0 rfl (fun W hp => ⟨_, _, _, rfl, (Gh.le.trans le1 le90), ⟨rfl, _, _, rfl, (by exact ho.le le90)⟩, Suf.hp (by repeat (first | exact Suf.refl | apply Suf.keep | apply Suf.cons | apply Suf.keepN | apply Suf.app)) hp⟩)
  have hE : N.run pos b0 m0 = { b with left := max (b.left - max 0 (min m b.left)) 0, v := 0 } := by rw [← hI0, if_neg c102]
  refine nx_skip (nx_then (nx_exit (nx_then_exit (nx_in_ne rfl (nx_then_exit (nx_in_eq (nx_ng ?_)))))))
  rw [hE]
  exact nx_end0 rfl (fun W hp => ⟨_, _, _, rfl, (Gh.le.trans le1 le90), ⟨rfl, _, _, rfl, (by exact ho.le le90)⟩, Suf.hp (by repeat (first | exact Suf.refl | apply Suf.keep | apply Suf.cons | apply Suf.keepN | apply Suf.app)) hp⟩)
  obtain ⟨o, hth⟩ := Option.isSome_iff_exists.1 (by simpa using c94)
  have hgd : (through N.p y.elem y.fin (NetD.goPos pos y.elem)).getD 0 = o := by rw [hgp, hth]; rfl
  rw [hgp] at hgd
  rw [hgd]
  rw [hth] at hI0
  simp only at hI0
  have hlp := Plan.length_pos hN.num c64 (through_ends hth)
  have hlr := Plan.length_range hN.num y.elem
  refine nx_skip (nx_then (nx_seq (nx_region (nv v_move (nv v_nilCheck (nv v_fieldAddr (st (k := nx_nil (nx_then (nx_seq (nf (b := bt) (k := ?_))))))))))))
  refine dr_begin_cons 13 (.q 0 (.q 1 (.q 2 (.q 3 (.q 4 (.q 5 (.q 6 (.q 7 (.q 8 (.l 9 (.l 10 (.q 11 (.q 12 .done))))))))))))) rfl (by kernel_rfl) (dr_q rfl rfl v_move (ic.cons _) (dr_q rfl rfl v_move (ic.cons _) (dr_q rfl rfl v_nilCheck (ic.cons _) (dr_q rfl rfl v_fieldAddr (ic.cons _) (dr_q rfl rfl v_load1_o (ic.cons _) (dr_q rfl rfl v_fieldAddr (ic.cons _) (dr_q rfl rfl v_load1_o (ic.cons _) (dr_q rfl rfl v_move (ic.cons _) (dr_q rfl rfl (v_build rfl rfl rfl) (ic.cons _) (dr_l rfl rfl ?_))))))))))
  refine op_buildSlice rfl rfl rfl rfl rfl (fun b118 => ?_)
  refine dr_k ((ic.cons _).cons _) (dr_l rfl rfl ?_)
  refine op_append (T := tPort) (N := [(bt, row r _)]) rfl rfl rfl (ho.le le90) (by repeat (first | exact Pull.here | apply Pull.cons | apply Pull.app)) (Src.row List.mem_cons_self (rows_Port [⟨y.elem, o⟩]) rfl) (by simp; omega) (by simp [maxLen]; omega) (fun v119 N119 o119 => ?_)
  obtain ⟨A119, c119, rfl, hc119⟩ := o119.val
  refine dr_k ((ic.cons _).app _) (dr_q rfl rfl v_nilCheck ((ic.cons _).app _) (dr_q rfl rfl v_fieldAddr ((ic.cons _).app _) (dr_end rfl (st (k := ?_)))))
  refine nx_nil (nx_np ?_)
  refine nx_then (nx_region (nv v_move (nv v_move (nv v_fieldAddr (nv v_load1_o ?_)))))
  refine nx_op rfl (op_callS rfl rfl rfl (fun W hp => length_ok hp (h.le (Gh.le.trans le1 le90)) y.elem) ?_)
  refine nv v_nilCheck (nv v_fieldAddr (st (k := nx_nil (nx_in _ (nx_then (nf (b := bb) (k := ?_)))))))
  exact nn (next (k, { b with mode := 2, trail := b.trail ++ [⟨y.elem, o⟩], left := N.p.length y.elem }, m - max 0 (min m b.left), .slice A119 _ c119, N119, _) ⟨(Gh.le.trans le1 le90), o119, hI0, (by dsimp only; omega), (by dsimp only; omega), hov, (by simp), (by dsimp only; simp; omega), (by dsimp only; rw [if_pos (by omega)]; split at hfu <;> omega)⟩ (by dsimp only; omega))
  refine op_alloc rfl (fun b9 => ?_)
  refine dr_k (ic.cons _) (dr_l rfl rfl ?_)
  refine op_callS rfl rfl rfl (fun W hp => next_ok hp (h.le le1) x) ?_
  refine dr_k (ic.cons _) (dr_q rfl rfl v_move (ic.cons _) (dr_q rfl rfl (v_extract rfl rfl rfl) (ic.cons _) (dr_q rfl rfl (v_extract rfl rfl rfl) (ic.cons _) (dr_l rfl rfl ?_))))
  refine op_sto rfl rfl rfl rfl rfl (by repeat (first | exact UpdS.here rfl | apply UpdS.cons | apply UpdS.app)) ?_
  refine dr_k (ic.cons _) (dr_q rfl rfl v_assign (ic.cons _) (dr_end rfl ?_))
  refine nx_nil (nx_np ?_)
  refine nx_then (nx_seq (nx_seq (nx_region (nv v_move (nv v_not (nx_nil (nx_then ?_)))))))
  refine nx_cond rfl (fun c56 => ?_) (fun c56 => ?_)
  have hnx : getK N.next x = none := by cases hq : getK N.next x with | none => rfl | some y => rw [hq] at c56; simp at c56
  rw [hnx] at hI0
  have hE : N.run pos b0 m0 = { b with left := max (b.left - max 0 (min m b.left)) 0, v := 0 } := hI0.symm
  refine nx_seq (nx_region (nv v_move (nv v_nilCheck (nv v_fieldAddr (st (k := nx_nil (nx_then (nx_exit (nx_then_exit (nx_in_ne rfl (nx_then_exit ?_)))))))))))
  refine nx_in_eq (nx_ng ?_)
  rw [hE]
  exact nx_end0 rfl (fun W hp => ⟨_, _, _, rfl, le1, ⟨rfl, _, _, rfl, (by exact ho)⟩, Suf.hp (by repeat (first | exact Suf.refl | apply Suf.keep | apply Suf.cons | apply Suf.keepN | apply Suf.app)) hp⟩)
  obtain ⟨y, hnx⟩ : ∃ y, getK N.next x = some y := by cases hq : getK N.next x with | none => rw [hq] at c56; simp at c56 | some y => exact ⟨y, rfl⟩
  have hyd : (getK N.next x).getD ⟨0, 0⟩ = y := by rw [hnx]; rfl
  rw [hnx] at hI0
  simp only at hI0
  rw [hyd]
  obtain ⟨yk, hyk, hyl, hyf⟩ := Plan.isPort_elem (hN.next _ _ hnx)
  refine nx_skip (nx_then (nx_seq (nx_seq (nx_region (nv v_move (nv v_fieldAddr (nv v_load1_o ?_)))))))
  refine nx_op rfl (op_callS rfl rfl rfl (fun W hp => kind_ok hp (h.le le1) y.elem) ?_)
  refine nv v_eql (nx_nil (nx_then ?_))
  refine nx_cond_dec rfl (fun c64 => ?_) (fun c64 => ?_)
  rw [if_pos c64] at hI0
  have hE : N.run pos b0 m0 = { b with left := max (b.left - max 0 (min m b.left)) 0, over := b.over + (m - max 0 (min m b.left)) } := hI0.symm
  refine nx_seq (nx_region (nv v_move (nv v_nilCheck (nv v_fieldAddr (nv v_load1_o (nv v_move (nv v_add (nv v_nilCheck (nv v_fieldAddr (st (k := nx_nil ?_)))))))))))
  refine nx_then (nx_exit (nx_then_exit (nx_in_ne rfl (nx_then_exit (nx_in_eq (nx_ng ?_))))))
  rw [hE]
  exact nx_end0 rfl (fun W hp => ⟨_, _, _, rfl, le1, ⟨rfl, _, _, rfl, (by exact ho)⟩, Suf.hp (by repeat (first | exact Suf.refl | apply Suf.keep | apply Suf.cons | apply Suf.keepN | apply Suf.app)) hp⟩)
  rw [if_neg c64] at hI0
  refine nx_skip (nx_then (nx_seq (nx_region (nv v_assign (nx_nil (nx_then (nx_seq (nx_seq (nx_region (nv v_fieldAddr (nv v_load1_o ?_)))))))))))
  refine nv v_move (nv v_len (nv v_lss (nx_nil (nx_then ?_))))
  refine nx_cond_dec rfl (fun c77 => ?_) (fun c77 => ?_)
  obtain ⟨q, hq⟩ : ∃ q, pos[yk]? = some q := ⟨_, List.getElem?_eq_getElem (by omega)⟩
  obtain ⟨qb, qo, qe, qk, qf0⟩ := get_Int (hs.le le1) hq
  cases qe
  have hgp : NetD.goPos pos y.elem = q := by unfold NetD.goPos; rw [if_pos (by omega), hyk, Int.toNat_natCast, hq]; rfl
  rw [hgp] at hI0
  refine nx_region (nv v_move (nv v_fieldAddr (nv v_load1_o ?_)))
  refine nv (v_indexAddr_nat (k := yk) rfl rfl (by rw [← hyk]; rfl) (by omega)) ?_
  refine nv v_load1_s (nv v_assign (nx_nil (nx_then (nx_seq (nx_region (nv v_move (nv v_fieldAddr (nv v_load1_o (nv v_fieldAddr (nv v_load1_o (nv v_move ?_)))))))))))
  refine nx_op rfl (op_callD rfl rfl rfl (fun W hp => through_ok hp (h.le le1) y.elem y.fin _) (fun v90 G90 le90 ph90 => ?_))
  subst ph90
  refine nv v_move (nv (v_extract rfl rfl rfl) (nv (v_extract rfl rfl rfl) (nv v_assign (nv v_assign (nx_nil (nx_then (nx_seq (nx_seq (nx_region (nv v_move (nv v_not ?_)))))))))))
  refine nx_nil (nx_then ?_)
  refine nx_cond rfl (fun c94 => ?_) (fun c94 => ?_)
  have hth : ∀ {α : Type} (o : Option α), (!o.isSome) = true → o = none := by intro α o; cases o <;> simp
  rw [hth _ c94] at hI0
  simp only at hI0
  refine nx_seq (nx_region (nv v_move (nv v_nilCheck (nv v_fieldAddr (st (k := nx_nil (nx_then (nx_seq (nx_seq (nx_region (nv v_move ?_)))))))))))
  refine nv v_nilCheck (nv v_fieldAddr (nv v_load1_o (nv v_eql (nx_nil (nx_then ?_)))))
  refine nx_cond_dec rfl (fun c102 => ?_) (fun c102 => ?_)
  have hE : N.run pos b0 m0 = { b with left := max (b.left - max 0 (min m b.left)) 0, v := 0, mode := 4 } := by rw [← hI0, if_pos c102]
  refine nx_region (nv v_move (nv v_nilCheck (nv v_fieldAddr (st (k := nx_nil (nx_then (nx_exit (nx_then_exit (nx_in_ne rfl (nx_then_exit (nx_in_eq ?_)))))))))))
  refine nx_ng ?_
  rw [hE]
  exact nx_end0 rfl (fun W hp => ⟨_, _, _, rfl, (Gh.le.trans le1 le90), ⟨rfl, _, _, rfl, (by exact ho.le le90)⟩, Suf.hp (by repeat (first | exact Suf.refl | apply Suf.keep | apply Suf.cons | apply Suf.keepN | apply Suf.app)) hp⟩)
  have hE : N.run pos b0 m0 = { b with left := max (b.left - max 0 (min m b.left)) 0, v := 0 } := by rw [← hI0, if_neg c102]
  refine nx_skip (nx_then (nx_exit (nx_then_exit (nx_in_ne rfl (nx_then_exit (nx_in_eq (nx_ng ?_)))))))
  rw [hE]
  exact nx_end0 rfl (fun W hp => ⟨_, _, _, rfl, (Gh.le.trans le1 le90), ⟨rfl, _, _, rfl, (by exact ho.le le90)⟩, Suf.hp (by repeat (first | exact Suf.refl | apply Suf.keep | apply Suf.cons | apply Suf.keepN | apply Suf.app)) hp⟩)
  obtain ⟨o, hth⟩ := Option.isSome_iff_exists.1 (by simpa using c94)
  have hgd : (through N.p y.elem y.fin (NetD.goPos pos y.elem)).getD 0 = o := by rw [hgp, hth]; rfl
  rw [hgp] at hgd
  rw [hgd]
  rw [hth] at hI0
  simp only at hI0
  have hlp := Plan.length_pos hN.num c64 (through_ends hth)
  have hlr := Plan.length_range hN.num y.elem
  refine nx_skip (nx_then (nx_seq (nx_region (nv v_move (nv v_nilCheck (nv v_fieldAddr (st (k := nx_nil (nx_then (nx_seq (nf (b := bt) (k := ?_))))))))))))
  refine dr_begin_cons 13 (.q 0 (.q 1 (.q 2 (.q 3 (.q 4 (.q 5 (.q 6 (.q 7 (.q 8 (.l 9 (.l 10 (.q 11 (.q 12 .done))))))))))))) rfl (by kernel_rfl) (dr_q rfl rfl v_move (ic.cons _) (dr_q rfl rfl v_move (ic.cons _) (dr_q rfl rfl v_nilCheck (ic.cons _) (dr_q rfl rfl v_fieldAddr (ic.cons _) (dr_q rfl rfl v_load1_o (ic.cons _) (dr_q rfl rfl v_fieldAddr (ic.cons _) (dr_q rfl rfl v_load1_o (ic.cons _) (dr_q rfl rfl v_move (ic.cons _) (dr_q rfl rfl (v_build rfl rfl rfl) (ic.cons _) (dr_l rfl rfl ?_))))))))))
  refine op_buildSlice rfl rfl rfl rfl rfl (fun b118 => ?_)
  refine dr_k ((ic.cons _).cons _) (dr_l rfl rfl ?_)
  refine op_append (T := tPort) (N := [(bt, row r _)]) rfl rfl rfl (ho.le le90) (by repeat (first | exact Pull.here | apply Pull.cons | apply Pull.app)) (Src.row List.mem_cons_self (rows_Port [⟨y.elem, o⟩]) rfl) (by simp; omega) (by simp [maxLen]; omega) (fun v119 N119 o119 => ?_)
  obtain ⟨A119, c119, rfl, hc119⟩ := o119.val
  refine dr_k ((ic.cons _).app _) (dr_q rfl rfl v_nilCheck ((ic.cons _).app _) (dr_q rfl rfl v_fieldAddr ((ic.cons _).app _) (dr_end rfl (st (k := ?_)))))
  refine nx_nil (nx_np ?_)
  refine nx_then (nx_region (nv v_move (nv v_move (nv v_fieldAddr (nv v_load1_o ?_)))))
  refine nx_op rfl (op_callS rfl rfl rfl (fun W hp => length_ok hp (h.le (Gh.le.trans le1 le90)) y.elem) ?_)
  refine nv v_nilCheck (nv v_fieldAddr (st (k := nx_nil (nx_in _ (nx_then (nf (b := bb) (k := ?_)))))))
  exact nn (next (k, { b with mode := 2, trail := b.trail ++ [⟨y.elem, o⟩], left := N.p.length y.elem }, m - max 0 (min m b.left), .slice A119 _ c119, N119, _) ⟨(Gh.le.trans le1 le90), o119, hI0, (by dsimp only; omega), (by dsimp only; omega), hov, (by simp), (by dsimp only; simp; omega), (by dsimp only; rw [if_pos (by omega)]; split at hfu <;> omega)⟩ (by dsimp only; omega))
  have hgp : NetD.goPos pos y.elem = 0 := by unfold NetD.goPos; rw [if_neg (by omega)]
  rw [hgp] at hI0
  refine nx_skip (nx_then (nx_seq (nx_region (nv v_move (nv v_fieldAddr (nv v_load1_o (nv v_fieldAddr (nv v_load1_o (nv v_move ?_)))))))))
  refine nx_op rfl (op_callD rfl rfl rfl (fun W hp => through_ok hp (h.le le1) y.elem y.fin _) (fun v90 G90 le90 ph90 => ?_))
  subst ph90
  refine nv v_move (nv (v_extract rfl rfl rfl) (nv (v_extract rfl rfl rfl) (nv v_assign (nv v_assign (nx_nil (nx_then (nx_seq (nx_seq (nx_region (nv v_move (nv v_not ?_)))))))))))
  refine nx_nil (nx_then ?_)
  refine nx_cond rfl (fun c94 => ?_) (fun c94 => ?_)
  have hth : ∀ {α : Type} (o : Option α), (!o.isSome) = true → o = none := by intro α o; cases o <;> simp
  rw [hth _ c94] at hI0
  simp only at hI0
  refine nx_seq (nx_region (nv v_move (nv v_nilCheck (nv v_fieldAddr (st (k := nx_nil (nx_then (nx_seq (nx_seq (nx_region (nv v_move ?_)))))))))))
  refine nv v_nilCheck (nv v_fieldAddr (nv v_load1_o (nv v_eql (nx_nil (nx_then ?_)))))
  refine nx_cond_dec rfl (fun c102 => ?_) (fun c102 => ?_)
  have hE : N.run pos b0 m0 = { b with left := max (b.left - max 0 (min m b.left)) 0, v := 0, mode := 4 } := by rw [← hI0, if_pos c102]
  refine nx_region (nv v_move (nv v_nilCheck (nv v_fieldAddr (st (k := nx_nil (nx_then (nx_exit (nx_then_exit (nx_in_ne rfl (nx_then_exit (nx_in_eq ?_)))))))))))
  refine nx_ng ?_
  rw [hE]
  exact nx_end0 rfl (fun W hp => ⟨_, _, _, rfl, (Gh.le.trans le1 le90), ⟨rfl, _, _, rfl, (by exact ho.le le90)⟩, Suf.hp (by repeat (first | exact Suf.refl | apply Suf.keep | apply Suf.cons | apply Suf.keepN | apply Suf.app)) hp⟩)
  have hE : N.run pos b0 m0 = { b with left := max (b.left - max 0 (min m b.left)) 0, v := 0 } := by rw [← hI0, if_neg c102]
  refine nx_skip (nx_then (nx_exit (nx_then_exit (nx_in_ne rfl (nx_then_exit (nx_in_eq (nx_ng ?_)))))))
  rw [hE]
  exact nx_end0 rfl (fun W hp => ⟨_, _, _, rfl, (Gh.le.trans le1 le90), ⟨rfl, _, _, rfl, (by exact ho.le le90)⟩, Suf.hp (by repeat (first | exact Suf.refl | apply Suf.keep | apply Suf.cons | apply Suf.keepN | apply Suf.app)) hp⟩)
  obtain ⟨o, hth⟩ := Option.isSome_iff_exists.1 (by simpa using c94)
  have hgd : (through N.p y.elem y.fin (NetD.goPos pos y.elem)).getD 0 = o := by rw [hgp, hth]; rfl
  rw [hgp] at hgd
  rw [hgd]
  rw [hth] at hI0
  simp only at hI0
  have hlp := Plan.length_pos hN.num c64 (through_ends hth)
  have hlr := Plan.length_range hN.num y.elem
  refine nx_skip (nx_then (nx_seq (nx_region (nv v_move (nv v_nilCheck (nv v_fieldAddr (st (k := nx_nil (nx_then (nx_seq (nf (b := bt) (k := ?_))))))))))))
  refine dr_begin_cons 13 (.q 0 (.q 1 (.q 2 (.q 3 (.q 4 (.q 5 (.q 6 (.q 7 (.q 8 (.l 9 (.l 10 (.q 11 (.q 12 .done))))))))))))) rfl (by kernel_rfl) (dr_q rfl rfl v_move (ic.cons _) (dr_q rfl rfl v_move (ic.cons _) (dr_q rfl rfl v_nilCheck (ic.cons _) (dr_q rfl rfl v_fieldAddr (ic.cons _) (dr_q rfl rfl v_load1_o (ic.cons _) (dr_q rfl rfl v_fieldAddr (ic.cons _) (dr_q rfl rfl v_load1_o (ic.cons _) (dr_q rfl rfl v_move (ic.cons _) (dr_q rfl rfl (v_build rfl rfl rfl) (ic.cons _) (dr_l rfl rfl ?_))))))))))
  refine op_buildSlice rfl rfl rfl rfl rfl (fun b118 => ?_)
  refine dr_k ((ic.cons _).cons _) (dr_l rfl rfl ?_)
  refine op_append (T := tPort) (N := [(bt, row r _)]) rfl rfl rfl (ho.le le90) (by repeat (first | exact Pull.here | apply Pull.cons | apply Pull.app)) (Src.row List.mem_cons_self (rows_Port [⟨y.elem, o⟩]) rfl) (by simp; omega) (by simp [maxLen]; omega) (fun v119 N119 o119 => ?_)
  obtain ⟨A119, c119, rfl, hc119⟩ := o119.val
  refine dr_k ((ic.cons _).app _) (dr_q rfl rfl v_nilCheck ((ic.cons _).app _) (dr_q rfl rfl v_fieldAddr ((ic.cons _).app _) (dr_end rfl (st (k := ?_)))))
  refine nx_nil (nx_np ?_)
  refine nx_then (nx_region (nv v_move (nv v_move (nv v_fieldAddr (nv v_load1_o ?_)))))
  refine nx_op rfl (op_callS rfl rfl rfl (fun W hp => length_ok hp (h.le (Gh.le.trans le1 le90)) y.elem) ?_)
  refine nv v_nilCheck (nv v_fieldAddr (st (k := nx_nil (nx_in _ (nx_then (nf (b := bb) (k := ?_)))))))
  exact nn (next (k, { b with mode := 2, trail := b.trail ++ [⟨y.elem, o⟩], left := N.p.length y.elem }, m - max 0 (min m b.left), .slice A119 _ c119, N119, _) ⟨(Gh.le.trans le1 le90), o119, hI0, (by dsimp only; omega), (by dsimp only; omega), hov, (by simp), (by dsimp only; simp; omega), (by dsimp only; rw [if_pos (by omega)]; split at hfu <;> omega)⟩ (by dsimp only; omega))
  have hE : N.run pos b0 m0 = b := by rw [← hI]; cases k with | zero => rfl | succ k => exact if_pos (by omega)
  refine nx_exit (nx_then_exit (nx_then_exit (nx_in_eq (nx_ng ?_))))
  rw [hE]
  exact nx_end0 rfl (fun W hp => ⟨_, _, _, rfl, le1, ⟨rfl, _, _, rfl, (by exact ho)⟩, Suf.hp (by repeat (first | exact Suf.refl | apply Suf.keep | apply Suf.cons | apply Suf.keepN | apply Suf.app)) hp⟩)
end Go.Proofs.YtjckojnlapchoaaGreat
open Go Go.RowKit
namespace Go.Proofs.YtjckojnlapchoaaGreat
open Go.Proofs
set_option maxRecDepth 20000 in
set_option maxHeartbeats 1000000 in
theorem delete01_ok {G : Gh} {H : List (Nat × Obj)} {W : World} {l : List Port} {v : Value} {N : List (Nat × Obj)} (hp : Hp G (N ++ H) W) (ho : OwnS tPort 71 G l v N) (hl : 2 ≤ l.length) :
    Calls Tryz.prog 66 ⟨[v, .int .i64 0, .int .i64 1]⟩ W (Ret G (fun G' H' v' => ∃ N', H' = N' ++ H ∧ OwnS tPort 71 G' (l.drop 1) v' N')) := by
  obtain ⟨b, c, r, rfl, rfl, hc, hm, hs, hr⟩ := ho.inv (by intro e; subst e; simp at hl)
  have hml : c ≤ 9223372036854775807 := by simpa [maxLen] using hm
  have hs2 : r.length = c * 2 := hs
  have hcut : (if c = 1 then some (⟨b, 0, none⟩ : Addr) else cutA (some ⟨b, 0, none⟩) 1 2) = some ⟨b, 2, none⟩ := by rw [if_neg (by omega)]; simp [cutA, add_plain]
  have hcut2 : (if c = l.length - 1 then some (⟨b, 0, none⟩ : Addr) else cutA (some ⟨b, 0, none⟩) (l.length - 1) 2) = some ⟨b, (l.length - 1) * 2, none⟩ := by rw [if_neg (by omega)]; simp [cutA, add_plain]
  obtain ⟨ys, hys⟩ : ∃ ys, (r.drop 2).take ((l.length - 1) * 2) = ys := ⟨_, rfl⟩
  have hyl : ys.length = (l.length - 1) * 2 := by rw [← hys, List.length_take, List.length_drop]; omega
  have hrows : Rows tPort G ys (l.drop 1) := by
    have h1 := hr.tail
    have h2 : (r.take (l.length * tPort.sz)).drop tPort.sz = ys := by
      rw [← hys, List.drop_take]
      congr 1
      show l.length * 2 - 2 = _; omega
    rw [h2] at h1; exact h1
  have hyr : ∀ j u, ys[j]? = some u → r[2 + j]? = some u := by
    intro j u hj
    rw [← hys, List.getElem?_take] at hj
    split at hj
    · rwa [List.getElem?_drop] at hj
    · cases hj
  refine enter Tryz.func66 rfl Tryz.ntmps66 (Nat.le_of_ble_eq_true rfl) hp (nx_seq (nx_region (nv v_assign (nx_nil (nx_then (nx_seq (nx_region (nv v_move (nv v_move (nv v_move (nv v_move ?_)))))))))))
  refine nv v_len (nv (v_slice_3 (k := 0) (h := 1) (m := l.length) rfl rfl rfl rfl rfl (by omega) (by omega) hc) (nx_nil (nx_then (nx_seq (nx_seq (nx_region (nv v_move (nv v_move (nv v_eql (nx_nil (nx_then ?_)))))))))))
  refine nx_cond_dec rfl (fun c16 => ?_) (fun c16 => ?_)
  exfalso; omega
  refine nx_skip (nx_then (nx_seq (nx_region (nv v_move (nv v_len (nv v_assign (nx_nil (nx_then (nx_seq (dr_begin 6 (.q 0 (.q 1 (.q 2 (.q 3 (.q 4 (.q 5 .done)))))) rfl (by kernel_rfl) (dr_q rfl rfl v_move ic ?_)))))))))))
  refine dr_q rfl rfl v_move ic (dr_q rfl rfl (v_slice_hi (h := 0) rfl rfl rfl (by omega)) ic (dr_q rfl rfl v_move ic (dr_q rfl rfl v_move ic ?_)))
  refine dr_q rfl rfl ((by rw [← hcut]; exact v_slice_lo (k := 1) rfl rfl rfl (by omega) : OpV _ _ _ _ _ _ 25 (.slice (some ⟨b, 2, none⟩) (l.length - 1) (c - 1)))) ic ?_
  refine dr_end rfl ?_
  refine nx_op rfl (op_append_in (q := l.length - 1) rfl rfl rfl ((by repeat (first | exact Take.here | apply Take.cons | apply Take.app))) (Rd.part (xs := ys) (r := r) List.mem_cons_self hyr) hyl hrows.oneCell (by omega) (by rw [hyl]; omega) (by omega) ?_)
  refine nv v_assign ?_
  refine nx_nil (nx_np ?_)
  refine nx_then (nx_seq (nx_region (nv v_move (nv v_move (nv v_len (nv v_move ?_))))))
  refine nv ((by rw [← hcut2]; exact v_slice_lh (k := l.length - 1) (h := l.length) rfl rfl rfl rfl (by omega) hc : OpV _ _ _ _ _ _ 31 (.slice (some ⟨b, (l.length - 1) * 2, none⟩) (l.length - (l.length - 1)) (c - (l.length - 1))))) ?_
  refine nx_op rfl (op_clear rfl (by simp [Value.cells, Value.oneCell']) ((by repeat (first | exact Take.here | apply Take.cons | apply Take.app))) (by omega) (by simp only [List.length_append, List.length_take, List.length_drop, hyl]; omega) (fun r' h1 h2 => ?_))
  refine nx_nil (nx_then (nx_seq (nx_region (nv v_move (nv v_assign (nx_nil (nx_then (nx_ret ?_))))))))
  exact nx_ret1 rfl (.tmp rfl) (fun W hp => ⟨_, G, _, rfl, Gh.le.refl _, ⟨_, rfl, OwnS.mk (r := r') (by simp; omega) hm (by rw [h1]; simp only [List.length_append, List.length_take, List.length_drop, hyl]; show _ = c * 2; omega) (by rw [show (l.drop 1).length * tPort.sz = (l.length - 1) * 2 by rw [List.length_drop]; rfl, h2]; simpa [hyl, List.take_append_of_le_length] using hrows) (by simp)⟩, Suf.hp (by repeat (first | exact Suf.refl | apply Suf.keep | apply Suf.cons | apply Suf.keepN | apply Suf.app)) hp⟩)
end Go.Proofs.YtjckojnlapchoaaGreat
open Go Go.RowKit
namespace Go.Proofs.YtjckojnlapchoaaGreat
open Go.Proofs
set_option maxRecDepth 20000 in
set_option maxHeartbeats 1000000 in
theorem cloneO_Port {G : Gh} {H : List (Nat × Obj)} {W : World} (hp : Hp G H W) {A : Option Addr} {n c : Nat} {l : List Port} (hs : Sl tPort G A n c l) (hb : n * 16 ≤ 140737488355328) : Calls Tryz.prog 116 ⟨[.slice A n c]⟩ W (Ret G (fun G' H' v => ∃ N, H' = N ++ H ∧ OwnS tPort 71 G' l v N)) := by
  have hl := hs.length
  have hbb := Nat.le_trans hs.cap hs.room
  refine enter Tryz.func116 rfl Tryz.ntmps116 (Nat.le_of_ble_eq_true rfl) hp (nx_seq (nx_region (nv v_assign (nx_nil (nx_then (nx_seq (nx_seq (nx_region (nv v_move (nv v_eql_nil (nx_nil ?_)))))))))))
  refine nx_then ?_
  refine nx_cond rfl (fun c4 => ?_) (fun c4 => ?_)
  have hl0 : l = [] := by
    rcases Nat.eq_zero_or_pos c with h0 | h0
    · have := hs.cap; exact List.length_eq_zero_iff.1 (by omega)
    · obtain ⟨b, o, rfl, _⟩ := hs.at_ h0; simp at c4
  subst hl0
  refine nx_seq (nx_region (nv v_assign (nx_nil (nx_then (nx_ret (nx_then_ret ?_))))))
  exact nx_ret1 rfl (.tmp rfl) (fun W hp => ⟨_, G, [] ++ H, rfl, Gh.le.refl _, ⟨[], rfl, .nil rfl⟩, Suf.hp (by repeat (first | exact Suf.refl | apply Suf.keep | apply Suf.cons | apply Suf.keepN | apply Suf.app)) hp⟩)
  refine nx_skip (nx_then (nx_seq (nx_region ?_)))
  refine nx_op rfl (op_buildSlice0 rfl (fun b5 => ?_))
  refine nv v_move ?_
  refine nx_op rfl (op_append (T := tPort) rfl rfl rfl (OwnS.row0 (b := b5)) (N := [(b5, row [] _)]) (by exact Pull.here) (Src.still (hs.le (Gh.le.refl _))) (by simp; omega) (by simp [maxLen]; omega) (fun v7 N7 o7 => ?_))
  refine nv v_assign (nx_nil (nx_then (nx_ret ?_)))
  exact nx_ret1 rfl (.tmp rfl) (fun W hp => ⟨_, G, N7 ++ H, rfl, Gh.le.refl _, ⟨N7, rfl, o7⟩, Suf.hp (by repeat (first | exact Suf.refl | apply Suf.keep | apply Suf.cons | apply Suf.keepN | apply Suf.app)) hp⟩)
set_option maxRecDepth 20000 in
set_option maxHeartbeats 1000000 in
theorem twinO_ok {G : Gh} {H : List (Nat × Obj)} {W : World} (hp : Hp G H W) {A1 : Option Addr} {n1 c1 : Nat} {b : Body} (bt : Body.At G A1 n1 c1 b) (hn : n1 ≤ 1000000) : Calls Tryz.prog 63 ⟨[.agg ⟨[.int .i64 b.mode, .slice A1 n1 c1, .int .i64 b.left, .int .i64 b.over, .int .i64 b.v]⟩]⟩ W (Ret G (fun G' H' v => ∃ A m c N, v = .agg ⟨[.int .i64 b.mode, .slice A m c, .int .i64 b.left, .int .i64 b.over, .int .i64 b.v]⟩ ∧ H' = N ++ H ∧ OwnS tPort 71 G' b.trail (.slice A m c) N)) := by
  refine enter Tryz.func63 rfl Tryz.ntmps63 (Nat.le_of_ble_eq_true rfl) hp (nx_seq (nx_region ?_))
  refine nx_op rfl (op_box rfl rfl (fun b1 => ?_))
  refine nx_op rfl (op_alloc rfl (fun b2 => ?_))
  refine nx_nil (nx_then (nx_seq (nx_region (nv v_fieldAddr (nv v_load1_o ?_)))))
  refine nx_op rfl (op_callR rfl rfl rfl (fun W hp => cloneO_Port hp bt.h1 (by omega)) (fun v5 G5 H5 le5 ph5 => ?_))
  obtain ⟨N5, rfl, o5⟩ := ph5
  obtain ⟨A5, c5, rfl, hc5⟩ := o5.val
  refine nv v_fieldAddr (st (k := nx_nil (nx_then (nx_seq (nx_region (nv v_load_o (st (k := nx_nil (nx_then (nx_ret ?_))))))))))
  exact nx_ret1 rfl ro (fun W hp => ⟨_, _, _, rfl, le5, ⟨_, _, _, N5, rfl, rfl, o5⟩, Suf.hp (by repeat (first | exact Suf.refl | apply Suf.keep | apply Suf.cons | apply Suf.keepN | apply Suf.app)) hp⟩)
def NetD.shorter (N : NetD) (len : Int) : Nat → Body → Body
  | 0, b => b
  | k + 1, b => if 1 < b.trail.length ∧ len ≤ N.has b then N.shorter len k { b with trail := b.trail.drop 1 } else b
def NetD.move (N : NetD) (pos : List Int) (len : Int) (b : Body) (v : Int) : Body :=
  let v := max 0 (min v 60)
  if (¬ b.mode = 1 ∧ ¬ b.mode = 2) ∨ b.trail = [] then b
  else if b.mode = 1 ∧ v = 0 then { b with v := v }
  else
    let o := N.run pos { b with v := v } v
    if len ≤ o.over then ⟨3, [], 0, 0, 0⟩ else N.shorter len o.trail.length o
structure RunR (b : Body) (m : Int) (o : Body) : Prop where
  left : 0 ≤ o.left ∧ o.left ≤ 4000
  over : 0 ≤ o.over ∧ o.over ≤ b.over + max m 0
  ne : o.trail ≠ []
theorem run_range {N : NetD} (hN : N.Ok) (pos : List Int) : ∀ (k : Nat) (b : Body) (m : Int), 0 ≤ b.left → b.left ≤ 4000 → 0 ≤ b.over → b.trail ≠ [] → RunR b m (N.runF pos k b m) ∧ (N.runF pos k b m).trail.length ≤ b.trail.length + k
  | 0, b, m, h1, h2, h3, h4 => ⟨⟨⟨h1, h2⟩, ⟨h3, by show b.over ≤ _; omega⟩, h4⟩, by simp [NetD.runF]⟩
  | k + 1, b, m, h1, h2, h3, h4 => by
    simp only [NetD.runF]
    split
    · exact ⟨⟨⟨h1, h2⟩, ⟨h3, by omega⟩, h4⟩, by omega⟩
    split
    · exact ⟨⟨by dsimp only; omega, ⟨h3, by dsimp only; omega⟩, h4⟩, by dsimp only; omega⟩
    split
    · exact ⟨⟨by dsimp only; omega, ⟨h3, by dsimp only; omega⟩, h4⟩, by dsimp only; omega⟩
    split
    · exact ⟨⟨by dsimp only; omega, ⟨by dsimp only; omega, by dsimp only; omega⟩, h4⟩, by dsimp only; omega⟩
    split
    · exact ⟨⟨by dsimp only; omega, ⟨h3, by dsimp only; omega⟩, h4⟩, by dsimp only; omega⟩
    · rename_i x _ _ _ o _
      have hl := Plan.length_range hN.num x.elem
      have ih := run_range hN pos k { b with mode := 2, trail := b.trail ++ [⟨x.elem, o⟩], left := N.p.length x.elem } (m - max 0 (min m b.left)) (by dsimp only; omega) (by dsimp only; omega) (by dsimp only; omega) (by simp)
      obtain ⟨⟨i1, i2, i3⟩, i4⟩ := ih
      dsimp only at i1 i2 i3 i4 ⊢
      simp only [List.length_append, List.length_singleton] at i4
      exact ⟨⟨i1, ⟨i2.1, by omega⟩, i3⟩, by omega⟩
end Go.Proofs.YtjckojnlapchoaaGreat
open Go Go.RowKit
namespace Go.Proofs.YtjckojnlapchoaaGreat
open Go.Proofs
structure ShI (N : NetD) (len : Int) (o : Body) (G0 : Gh) (k : Nat) (q : Body) (v : Value) (Nb : List (Nat × Obj)) (G : Gh) : Prop where
  le : G0.le G
  own : OwnS tPort 71 G q.trail v Nb
  spec : N.shorter len k q = N.shorter len o.trail.length o
  left : 0 ≤ q.left ∧ q.left ≤ 4000
  over : 0 ≤ q.over ∧ q.over ≤ 5000
  ne : q.trail ≠ []
  len : q.trail.length ≤ k
  small : k ≤ 1000000
set_option maxRecDepth 20000 in
set_option maxHeartbeats 1000000 in
theorem move_ok {G : Gh} {H : List (Nat × Obj)} {W : World} (hp : Hp G H W) {g : Nat} {N : NetD} (h : NetAt G g N) (hN : N.Ok) {A1 : Option Addr} {n1 c1 : Nat} {b : Body} (bt : Body.At G A1 n1 c1 b) {A : Option Addr} {n c : Nat} {pos : List Int} (hs : Sl tInt G A n c pos) (len v : Int) (hn : n1 ≤ 900000) (hlf : 0 ≤ b.left ∧ b.left ≤ 4000) (hov : 0 ≤ b.over ∧ b.over ≤ 4000) :
    Calls Tryz.prog 24 ⟨[.pointer (some ⟨g, 0, none⟩), .slice A n c, .int .i64 len, .agg ⟨[.int .i64 b.mode, .slice A1 n1 c1, .int .i64 b.left, .int .i64 b.over, .int .i64 b.v]⟩, .int .i64 v]⟩ W (RetD G H (IsBody (N.move pos len b v))) := by
  have hl := bt.h1.length
  refine enter Tryz.func24 rfl Tryz.ntmps24 (Nat.le_of_ble_eq_true rfl) hp (nx_seq (nx_region ?_))
  refine nx_op rfl (op_box rfl rfl (fun b8 => ?_))
  refine nx_op rfl (op_alloc rfl (fun b10 => ?_))
  refine nx_nil (nx_then (nx_seq (nx_region (nv v_load_o ?_))))
  refine nx_op rfl (op_callR rfl rfl rfl (fun W hp => twinO_ok hp bt (by omega)) (fun v13 G13 H13 le13 ph13 => ?_))
  obtain ⟨B13, m13, c13, N13, rfl, rfl, o13⟩ := ph13
  refine nx_op rfl (op_alloc rfl (fun b11 => ?_))
  refine st (k := nx_nil (nx_then (nx_seq (nx_region (nv v_move (nv v_min (nv v_max (nv v_assign (nx_nil (nx_then (nx_seq ?_)))))))))))
  refine nx_seq (nx_region (nv v_fieldAddr (nv v_load1_o (nv v_neq (nv v_move ?_)))))
  refine nx_guard_dec (t := 20) rfl (fun g20 => ?_) (fun g20 => ?_)
  refine nr v_fieldAddr (nr v_load1_o (nr v_neq (nv v_pick_t (nv v_move ?_))))
  refine nx_guard_dec (t := 25) rfl (fun g25 => ?_) (fun g25 => ?_)
  refine nk (k := nk (k := nk (k := nk (k := nv v_pick_t (nx_nil (nx_then (nx_cond_t rfl ?_)))))))
  have hE : N.move pos len b v = b := if_pos (by
    by_cases h0 : b.trail = []
    · exact .inr h0
    · left
      have h1 : b.trail.length ≠ 0 := fun h => h0 (List.length_eq_zero_iff.1 h)
      simp_all)
  refine nx_still o13 (by repeat (first | exact Pull.here | apply Pull.cons | apply Pull.app)) (fun G9 A9 d9 le9 hv9 hs9 => ?_)
  cases hv9
  refine nx_seq (nx_region (nv v_load_o (st (k := nx_nil (nx_then (nx_ret (nx_then_ret ?_)))))))
  first
  | exact nx_ret1 rfl ro (rt ((Gh.le.trans le13 le9)) (by rw [hE]; exact ⟨_, _, _, rfl, ⟨hs9⟩⟩))
  | exact nx_ret1 rfl ro (rt ((Gh.le.trans le13 le9)) (by rw [hmv]; exact ⟨_, _, _, rfl, ⟨Sl.nil _ _⟩⟩))
  refine nr v_fieldAddr (nr v_load1_o (nr v_len (nr v_eql (nv v_pick_f (nx_nil (nx_then ?_))))))
  refine nx_cond_dec rfl (fun c30 => ?_) (fun c30 => ?_)
  have hE : N.move pos len b v = b := if_pos (by
    by_cases h0 : b.trail = []
    · exact .inr h0
    · left
      have h1 : b.trail.length ≠ 0 := fun h => h0 (List.length_eq_zero_iff.1 h)
      simp_all)
  refine nx_still o13 (by repeat (first | exact Pull.here | apply Pull.cons | apply Pull.app)) (fun G9 A9 d9 le9 hv9 hs9 => ?_)
  cases hv9
  refine nx_seq (nx_region (nv v_load_o (st (k := nx_nil (nx_then (nx_ret (nx_then_ret ?_)))))))
  first
  | exact nx_ret1 rfl ro (rt ((Gh.le.trans le13 le9)) (by rw [hE]; exact ⟨_, _, _, rfl, ⟨hs9⟩⟩))
  | exact nx_ret1 rfl ro (rt ((Gh.le.trans le13 le9)) (by rw [hmv]; exact ⟨_, _, _, rfl, ⟨Sl.nil _ _⟩⟩))
  have hc0 : ¬ ((¬ b.mode = 1 ∧ ¬ b.mode = 2) ∨ b.trail = []) := by
    intro h0
    rcases h0 with ⟨h1, h2⟩ | h1
    · simp_all
    · rw [h1] at hl; simp at hl; simp_all
  have hne : b.trail ≠ [] := fun h => hc0 (.inr h)
  refine nx_skip (nx_then (nx_seq (nx_region (nv v_move (nv v_fieldAddr (st (k := nx_nil (nx_then (nx_seq (nx_seq (nx_region ?_)))))))))))
  refine nv v_fieldAddr (nv v_load1_o (nv v_eql (nv v_move ?_)))
  refine nx_guard_dec (t := 37) rfl (fun g37 => ?_) (fun g37 => ?_)
  refine nr v_move (nr v_eql (nv v_pick_t (nx_nil (nx_then ?_))))
  refine nx_cond_dec rfl (fun c40 => ?_) (fun c40 => ?_)
  have hE : N.move pos len b v = { b with v := max 0 (min v 60) } := by unfold NetD.move; rw [if_neg hc0, if_pos (by simp_all)]
  refine nx_still o13 (by repeat (first | exact Pull.here | apply Pull.cons | apply Pull.app)) (fun G9 A9 d9 le9 hv9 hs9 => ?_)
  cases hv9
  refine nx_seq (nx_region (nv v_load_o (st (k := nx_nil (nx_then (nx_ret (nx_then_ret ?_)))))))
  first
  | exact nx_ret1 rfl ro (rt ((Gh.le.trans le13 le9)) (by rw [hE]; exact ⟨_, _, _, rfl, ⟨hs9⟩⟩))
  | exact nx_ret1 rfl ro (rt ((Gh.le.trans le13 le9)) (by rw [hmv]; exact ⟨_, _, _, rfl, ⟨Sl.nil _ _⟩⟩))
  have hc1 : ¬ (b.mode = 1 ∧ max 0 (min v 60) = 0) := by simp_all
  have hmv : N.move pos len b v = if len ≤ (N.run pos { b with v := max 0 (min v 60) } (max 0 (min v 60))).over then ⟨3, [], 0, 0, 0⟩ else N.shorter len (N.run pos { b with v := max 0 (min v 60) } (max 0 (min v 60))).trail.length (N.run pos { b with v := max 0 (min v 60) } (max 0 (min v 60))) := by unfold NetD.move; rw [if_neg hc0, if_neg hc1]
  obtain ⟨hr1, hr2⟩ := run_range hN pos ((max 0 (min v 60)).toNat + 2) { b with v := max 0 (min v 60) } (max 0 (min v 60)) hlf.1 hlf.2 hov.1 hne
  obtain ⟨hrl, hro, hrn⟩ := hr1
  dsimp only at hro hr2
  refine nx_skip (nx_then (nx_seq (nx_region (nv v_move (nv v_move (nv v_move ?_))))))
  refine nx_op rfl (op_callR rfl rfl rfl (fun W hp => runs_ok (b0 := { b with v := max 0 (min v 60) }) hp o13 (h.le le13) hN (hs.le le13) (by omega) hlf hov hne (by dsimp only; omega)) (fun v45 G45 H45 le45 ph45 => ?_))
  obtain ⟨rfl, v9, N9, rfl, o9⟩ := ph45
  unfold NetD.run at o9 hmv ⊢
  generalize N.runF pos ((max 0 (min v 60)).toNat + 2) { b with v := max 0 (min v 60) } (max 0 (min v 60)) = o at o9 hmv hrl hro hrn hr2 ⊢
  unfold bodyRow
  refine nx_nil (nx_then (nx_seq (nx_seq (nx_region (nv v_fieldAddr (nv v_load1_o (nv v_move (nv v_geq (nx_nil (nx_then ?_))))))))))
  refine nx_cond_dec rfl (fun c49 => ?_) (fun c49 => ?_)
  rw [if_pos c49] at hmv
  refine nx_seq (nx_region (nv (v_build rfl rfl rfl) (st (k := nx_nil (nx_then (nx_ret (nx_then_ret ?_)))))))
  first
  | exact nx_ret1 rfl ro (rt ((Gh.le.trans le13 le45)) (by rw [hE]; exact ⟨_, _, _, rfl, ⟨hs9⟩⟩))
  | exact nx_ret1 rfl ro (rt ((Gh.le.trans le13 le45)) (by rw [hmv]; exact ⟨_, _, _, rfl, ⟨Sl.nil _ _⟩⟩))
  rw [if_neg c49] at hmv
  refine nx_skip (nx_then (nx_seq (nx_block ?_)))
  refine nx_loop_v (σ := Nat × Body × Value × List (Nat × Obj) × Gh) [0, 1, 2, 3, 4, 8, 10, 11, 12, 13, 14, 15, 16, 17, 18, 19, 20, 21, 22, 23, 24, 25, 26, 27, 28, 29, 30, 32, 33, 34, 35, 36, 37, 38, 39, 40, 42, 43, 44, 46, 47, 48, 49] (fun _ => []) (fun s => s.2.2.2.2) (fun s => (b11, row [.int .i64 s.2.1.mode, s.2.2.1, .int .i64 s.2.1.left, .int .i64 s.2.1.over, .int .i64 s.2.1.v] 33) :: (s.2.2.2.1 ++ _)) (fun s => ShI N len o G45 s.1 s.2.1 s.2.2.1 s.2.2.2.1 s.2.2.2.2) (fun s => s.1) (o.trail.length, o, v9, N9, G45) (.cons rfl (.cons rfl (.cons rfl (.cons rfl (.cons rfl (.cons rfl (.cons rfl (.cons rfl (.cons rfl (.cons rfl (.cons rfl (.cons rfl (.cons rfl (.cons rfl (.cons rfl (.cons rfl (.cons rfl (.cons rfl (.cons rfl (.cons rfl (.cons rfl (.cons rfl (.cons rfl (.cons rfl (.cons rfl (.cons rfl (.cons rfl (.cons rfl (.cons rfl (.cons rfl (.cons rfl (.cons rfl (.cons rfl (.cons rfl (.cons rfl (.cons rfl (.cons rfl (.cons rfl (.cons rfl (.cons rfl (.cons rfl (.cons rfl (.cons rfl (.nil)))))))))))))))))))))))))))))))))))))))))))) trivial ⟨Gh.le.refl _, o9, rfl, hrl, (by dsimp only; omega), hrn, Nat.le_refl _, (by dsimp only; omega)⟩ rfl rfl ?_
  rintro ⟨k, q, v8, N8, G8⟩ ⟨le8, o8, hI, ql, qo, qn, qk, qs⟩ K next
  dsimp only at le8 o8 hI ql qo qn qk qs ⊢
  have qpos := List.length_pos_iff.2 qn
  obtain ⟨k, rfl⟩ : ∃ j, k = j + 1 := ⟨k - 1, by omega⟩
  obtain ⟨tb, tc, tr, rfl, rfl, htc⟩ := o8.inv qn
  simp only [NetD.shorter] at hI
  refine nx_seq (nx_seq (nx_region (nv v_fieldAddr (nv v_load1_o (nv v_len (nv v_gtr (nv v_move ?_)))))))
  refine nx_guard_dec (t := 55) rfl (fun g55 => ?_) (fun g55 => ?_)
  refine nr v_move (nr v_load_o ?_)
  refine nx_op_run rfl rfl rfl (op_callB (b := tb) ((by repeat (first | exact Take.here | apply Take.cons | apply Take.app))) rfl rfl rfl (fun W hb hp => has_ok hp ((h.le (Gh.le.trans le13 (Gh.le.trans le45 le8))).le (Gh.put_le hb)) ⟨o8.lent hb⟩ hN.num qn (by omega) (by omega)) ?_)
  refine nr v_move (nr v_geq (nv v_pick_t (nx_nil (nx_then ?_))))
  refine nx_cond_dec rfl (fun c61 => ?_) (fun c61 => ?_)
  rw [if_pos ⟨by omega, c61⟩] at hI
  refine nx_skip (nx_then (nx_block (nx_region (nv v_fieldAddr (nv v_load1_o ?_)))))
  refine nx_op rfl (op_callR rfl rfl rfl (fun W hp => delete01_ok hp o8 (by omega)) (fun v64 G64 H64 le64 ph64 => ?_))
  obtain ⟨N64, rfl, o64⟩ := ph64
  obtain ⟨A64, c64, rfl, hc64⟩ := o64.val
  refine nv v_fieldAddr (st (k := nx_nil (nx_in _ (nx_then (nf (b := b11) (k := ?_))))))
  exact nn (next (k, { q with trail := q.trail.drop 1 }, .slice A64 _ c64, N64, _) ⟨le8.trans le64, o64, hI, ql, qo, (by intro h0; have := congrArg List.length h0; simp at this; omega), (by simp; omega), (by omega)⟩ (by dsimp only; omega))
  have hE : N.move pos len b v = q := by rw [hmv, ← hI, if_neg (fun h => by exact absurd h.1 (by omega))]
  refine nx_still o8 (by repeat (first | exact Pull.here | apply Pull.cons | apply Pull.app)) (fun G9 A9 d9 le9 hv9 hs9 => ?_)
  cases hv9
  refine nx_exit (nx_then_exit (nx_then_exit (nx_in_eq (nx_then (nx_seq (nx_region (nv v_load_o (st (k := nx_nil (nx_then (nx_ret ?_)))))))))))
  first
  | exact nx_ret1 rfl ro (rt ((Gh.le.trans le13 (Gh.le.trans le45 (Gh.le.trans le8 le9)))) (by rw [hE]; exact ⟨_, _, _, rfl, ⟨hs9⟩⟩))
  | exact nx_ret1 rfl ro (rt ((Gh.le.trans le13 (Gh.le.trans le45 (Gh.le.trans le8 le9)))) (by rw [hmv]; exact ⟨_, _, _, rfl, ⟨Sl.nil _ _⟩⟩))
  refine nk (k := nk (k := nk (k := nk (k := nk (k := nv v_pick_f (nx_nil (nx_then (nx_cond_f rfl ?_))))))))
  have hE : N.move pos len b v = q := by rw [hmv, ← hI, if_neg (fun h => by exact absurd h.1 (by omega))]
  refine nx_still o8 (by repeat (first | exact Pull.here | apply Pull.cons | apply Pull.app)) (fun G9 A9 d9 le9 hv9 hs9 => ?_)
  cases hv9
  refine nx_exit (nx_then_exit (nx_then_exit (nx_in_eq (nx_then (nx_seq (nx_region (nv v_load_o (st (k := nx_nil (nx_then (nx_ret ?_)))))))))))
  first
  | exact nx_ret1 rfl ro (rt ((Gh.le.trans le13 (Gh.le.trans le45 (Gh.le.trans le8 le9)))) (by rw [hE]; exact ⟨_, _, _, rfl, ⟨hs9⟩⟩))
  | exact nx_ret1 rfl ro (rt ((Gh.le.trans le13 (Gh.le.trans le45 (Gh.le.trans le8 le9)))) (by rw [hmv]; exact ⟨_, _, _, rfl, ⟨Sl.nil _ _⟩⟩))
  refine nk (k := nk (k := nv v_pick_f (nx_nil (nx_then (nx_cond_f rfl ?_)))))
  have hc1 : ¬ (b.mode = 1 ∧ max 0 (min v 60) = 0) := by simp_all
  have hmv : N.move pos len b v = if len ≤ (N.run pos { b with v := max 0 (min v 60) } (max 0 (min v 60))).over then ⟨3, [], 0, 0, 0⟩ else N.shorter len (N.run pos { b with v := max 0 (min v 60) } (max 0 (min v 60))).trail.length (N.run pos { b with v := max 0 (min v 60) } (max 0 (min v 60))) := by unfold NetD.move; rw [if_neg hc0, if_neg hc1]
  obtain ⟨hr1, hr2⟩ := run_range hN pos ((max 0 (min v 60)).toNat + 2) { b with v := max 0 (min v 60) } (max 0 (min v 60)) hlf.1 hlf.2 hov.1 hne
  obtain ⟨hrl, hro, hrn⟩ := hr1
  dsimp only at hro hr2
  refine nx_skip (nx_then (nx_seq (nx_region (nv v_move (nv v_move (nv v_move ?_))))))
  refine nx_op rfl (op_callR rfl rfl rfl (fun W hp => runs_ok (b0 := { b with v := max 0 (min v 60) }) hp o13 (h.le le13) hN (hs.le le13) (by omega) hlf hov hne (by dsimp only; omega)) (fun v45 G45 H45 le45 ph45 => ?_))
  obtain ⟨rfl, v9, N9, rfl, o9⟩ := ph45
  unfold NetD.run at o9 hmv ⊢
  generalize N.runF pos ((max 0 (min v 60)).toNat + 2) { b with v := max 0 (min v 60) } (max 0 (min v 60)) = o at o9 hmv hrl hro hrn hr2 ⊢
  unfold bodyRow
  refine nx_nil (nx_then (nx_seq (nx_seq (nx_region (nv v_fieldAddr (nv v_load1_o (nv v_move (nv v_geq (nx_nil (nx_then ?_))))))))))
  refine nx_cond_dec rfl (fun c49 => ?_) (fun c49 => ?_)
  rw [if_pos c49] at hmv
  refine nx_seq (nx_region (nv (v_build rfl rfl rfl) (st (k := nx_nil (nx_then (nx_ret (nx_then_ret ?_)))))))
  first
  | exact nx_ret1 rfl ro (rt ((Gh.le.trans le13 le45)) (by rw [hE]; exact ⟨_, _, _, rfl, ⟨hs9⟩⟩))
  | exact nx_ret1 rfl ro (rt ((Gh.le.trans le13 le45)) (by rw [hmv]; exact ⟨_, _, _, rfl, ⟨Sl.nil _ _⟩⟩))
  rw [if_neg c49] at hmv
  refine nx_skip (nx_then (nx_seq (nx_block ?_)))
  refine nx_loop_v (σ := Nat × Body × Value × List (Nat × Obj) × Gh) [0, 1, 2, 3, 4, 8, 10, 11, 12, 13, 14, 15, 16, 17, 18, 19, 20, 21, 22, 23, 24, 25, 26, 27, 28, 29, 30, 32, 33, 34, 35, 36, 37, 38, 39, 40, 42, 43, 44, 46, 47, 48, 49] (fun _ => []) (fun s => s.2.2.2.2) (fun s => (b11, row [.int .i64 s.2.1.mode, s.2.2.1, .int .i64 s.2.1.left, .int .i64 s.2.1.over, .int .i64 s.2.1.v] 33) :: (s.2.2.2.1 ++ _)) (fun s => ShI N len o G45 s.1 s.2.1 s.2.2.1 s.2.2.2.1 s.2.2.2.2) (fun s => s.1) (o.trail.length, o, v9, N9, G45) (.cons rfl (.cons rfl (.cons rfl (.cons rfl (.cons rfl (.cons rfl (.cons rfl (.cons rfl (.cons rfl (.cons rfl (.cons rfl (.cons rfl (.cons rfl (.cons rfl (.cons rfl (.cons rfl (.cons rfl (.cons rfl (.cons rfl (.cons rfl (.cons rfl (.cons rfl (.cons rfl (.cons rfl (.cons rfl (.cons rfl (.cons rfl (.cons rfl (.cons rfl (.cons rfl (.cons rfl (.cons rfl (.cons rfl (.cons rfl (.cons rfl (.cons rfl (.cons rfl (.cons rfl (.cons rfl (.cons rfl (.cons rfl (.cons rfl (.cons rfl (.nil)))))))))))))))))))))))))))))))))))))))))))) trivial ⟨Gh.le.refl _, o9, rfl, hrl, (by dsimp only; omega), hrn, Nat.le_refl _, (by dsimp only; omega)⟩ rfl rfl ?_
  rintro ⟨k, q, v8, N8, G8⟩ ⟨le8, o8, hI, ql, qo, qn, qk, qs⟩ K next
  dsimp only at le8 o8 hI ql qo qn qk qs ⊢
  have qpos := List.length_pos_iff.2 qn
  obtain ⟨k, rfl⟩ : ∃ j, k = j + 1 := ⟨k - 1, by omega⟩
  obtain ⟨tb, tc, tr, rfl, rfl, htc⟩ := o8.inv qn
  simp only [NetD.shorter] at hI
  refine nx_seq (nx_seq (nx_region (nv v_fieldAddr (nv v_load1_o (nv v_len (nv v_gtr (nv v_move ?_)))))))
  refine nx_guard_dec (t := 55) rfl (fun g55 => ?_) (fun g55 => ?_)
  refine nr v_move (nr v_load_o ?_)
  refine nx_op_run rfl rfl rfl (op_callB (b := tb) ((by repeat (first | exact Take.here | apply Take.cons | apply Take.app))) rfl rfl rfl (fun W hb hp => has_ok hp ((h.le (Gh.le.trans le13 (Gh.le.trans le45 le8))).le (Gh.put_le hb)) ⟨o8.lent hb⟩ hN.num qn (by omega) (by omega)) ?_)
  refine nr v_move (nr v_geq (nv v_pick_t (nx_nil (nx_then ?_))))
  refine nx_cond_dec rfl (fun c61 => ?_) (fun c61 => ?_)
  rw [if_pos ⟨by omega, c61⟩] at hI
  refine nx_skip (nx_then (nx_block (nx_region (nv v_fieldAddr (nv v_load1_o ?_)))))
  refine nx_op rfl (op_callR rfl rfl rfl (fun W hp => delete01_ok hp o8 (by omega)) (fun v64 G64 H64 le64 ph64 => ?_))
  obtain ⟨N64, rfl, o64⟩ := ph64
  obtain ⟨A64, c64, rfl, hc64⟩ := o64.val
  refine nv v_fieldAddr (st (k := nx_nil (nx_in _ (nx_then (nf (b := b11) (k := ?_))))))
  exact nn (next (k, { q with trail := q.trail.drop 1 }, .slice A64 _ c64, N64, _) ⟨le8.trans le64, o64, hI, ql, qo, (by intro h0; have := congrArg List.length h0; simp at this; omega), (by simp; omega), (by omega)⟩ (by dsimp only; omega))
  have hE : N.move pos len b v = q := by rw [hmv, ← hI, if_neg (fun h => by exact absurd h.1 (by omega))]
  refine nx_still o8 (by repeat (first | exact Pull.here | apply Pull.cons | apply Pull.app)) (fun G9 A9 d9 le9 hv9 hs9 => ?_)
  cases hv9
  refine nx_exit (nx_then_exit (nx_then_exit (nx_in_eq (nx_then (nx_seq (nx_region (nv v_load_o (st (k := nx_nil (nx_then (nx_ret ?_)))))))))))
  first
  | exact nx_ret1 rfl ro (rt ((Gh.le.trans le13 (Gh.le.trans le45 (Gh.le.trans le8 le9)))) (by rw [hE]; exact ⟨_, _, _, rfl, ⟨hs9⟩⟩))
  | exact nx_ret1 rfl ro (rt ((Gh.le.trans le13 (Gh.le.trans le45 (Gh.le.trans le8 le9)))) (by rw [hmv]; exact ⟨_, _, _, rfl, ⟨Sl.nil _ _⟩⟩))
  refine nk (k := nk (k := nk (k := nk (k := nk (k := nv v_pick_f (nx_nil (nx_then (nx_cond_f rfl ?_))))))))
  have hE : N.move pos len b v = q := by rw [hmv, ← hI, if_neg (fun h => by exact absurd h.1 (by omega))]
  refine nx_still o8 (by repeat (first | exact Pull.here | apply Pull.cons | apply Pull.app)) (fun G9 A9 d9 le9 hv9 hs9 => ?_)
  cases hv9
  refine nx_exit (nx_then_exit (nx_then_exit (nx_in_eq (nx_then (nx_seq (nx_region (nv v_load_o (st (k := nx_nil (nx_then (nx_ret ?_)))))))))))
  first
  | exact nx_ret1 rfl ro (rt ((Gh.le.trans le13 (Gh.le.trans le45 (Gh.le.trans le8 le9)))) (by rw [hE]; exact ⟨_, _, _, rfl, ⟨hs9⟩⟩))
  | exact nx_ret1 rfl ro (rt ((Gh.le.trans le13 (Gh.le.trans le45 (Gh.le.trans le8 le9)))) (by rw [hmv]; exact ⟨_, _, _, rfl, ⟨Sl.nil _ _⟩⟩))
  refine nk (k := nk (k := nk (k := nv v_pick_f (nv v_move (nr v_fieldAddr (nr v_load1_o (nr v_len (nr v_eql (nv v_pick_f (nx_nil (nx_then ?_)))))))))))
  refine nx_cond_dec rfl (fun c30 => ?_) (fun c30 => ?_)
  have hE : N.move pos len b v = b := if_pos (by
    by_cases h0 : b.trail = []
    · exact .inr h0
    · left
      have h1 : b.trail.length ≠ 0 := fun h => h0 (List.length_eq_zero_iff.1 h)
      simp_all)
  refine nx_still o13 (by repeat (first | exact Pull.here | apply Pull.cons | apply Pull.app)) (fun G9 A9 d9 le9 hv9 hs9 => ?_)
  cases hv9
  refine nx_seq (nx_region (nv v_load_o (st (k := nx_nil (nx_then (nx_ret (nx_then_ret ?_)))))))
  first
  | exact nx_ret1 rfl ro (rt ((Gh.le.trans le13 le9)) (by rw [hE]; exact ⟨_, _, _, rfl, ⟨hs9⟩⟩))
  | exact nx_ret1 rfl ro (rt ((Gh.le.trans le13 le9)) (by rw [hmv]; exact ⟨_, _, _, rfl, ⟨Sl.nil _ _⟩⟩))
  have hc0 : ¬ ((¬ b.mode = 1 ∧ ¬ b.mode = 2) ∨ b.trail = []) := by
    intro h0
    rcases h0 with ⟨h1, h2⟩ | h1
    · simp_all
    · rw [h1] at hl; simp at hl; simp_all
  have hne : b.trail ≠ [] := fun h => hc0 (.inr h)
  refine nx_skip (nx_then (nx_seq (nx_region (nv v_move (nv v_fieldAddr (st (k := nx_nil (nx_then (nx_seq (nx_seq (nx_region ?_)))))))))))
  refine nv v_fieldAddr (nv v_load1_o (nv v_eql (nv v_move ?_)))
  refine nx_guard_dec (t := 37) rfl (fun g37 => ?_) (fun g37 => ?_)
  refine nr v_move (nr v_eql (nv v_pick_t (nx_nil (nx_then ?_))))
  refine nx_cond_dec rfl (fun c40 => ?_) (fun c40 => ?_)
  have hE : N.move pos len b v = { b with v := max 0 (min v 60) } := by unfold NetD.move; rw [if_neg hc0, if_pos (by simp_all)]
  refine nx_still o13 (by repeat (first | exact Pull.here | apply Pull.cons | apply Pull.app)) (fun G9 A9 d9 le9 hv9 hs9 => ?_)
  cases hv9
  refine nx_seq (nx_region (nv v_load_o (st (k := nx_nil (nx_then (nx_ret (nx_then_ret ?_)))))))
  first
  | exact nx_ret1 rfl ro (rt ((Gh.le.trans le13 le9)) (by rw [hE]; exact ⟨_, _, _, rfl, ⟨hs9⟩⟩))
  | exact nx_ret1 rfl ro (rt ((Gh.le.trans le13 le9)) (by rw [hmv]; exact ⟨_, _, _, rfl, ⟨Sl.nil _ _⟩⟩))
  have hc1 : ¬ (b.mode = 1 ∧ max 0 (min v 60) = 0) := by simp_all
  have hmv : N.move pos len b v = if len ≤ (N.run pos { b with v := max 0 (min v 60) } (max 0 (min v 60))).over then ⟨3, [], 0, 0, 0⟩ else N.shorter len (N.run pos { b with v := max 0 (min v 60) } (max 0 (min v 60))).trail.length (N.run pos { b with v := max 0 (min v 60) } (max 0 (min v 60))) := by unfold NetD.move; rw [if_neg hc0, if_neg hc1]
  obtain ⟨hr1, hr2⟩ := run_range hN pos ((max 0 (min v 60)).toNat + 2) { b with v := max 0 (min v 60) } (max 0 (min v 60)) hlf.1 hlf.2 hov.1 hne
  obtain ⟨hrl, hro, hrn⟩ := hr1
  dsimp only at hro hr2
  refine nx_skip (nx_then (nx_seq (nx_region (nv v_move (nv v_move (nv v_move ?_))))))
  refine nx_op rfl (op_callR rfl rfl rfl (fun W hp => runs_ok (b0 := { b with v := max 0 (min v 60) }) hp o13 (h.le le13) hN (hs.le le13) (by omega) hlf hov hne (by dsimp only; omega)) (fun v45 G45 H45 le45 ph45 => ?_))
  obtain ⟨rfl, v9, N9, rfl, o9⟩ := ph45
  unfold NetD.run at o9 hmv ⊢
  generalize N.runF pos ((max 0 (min v 60)).toNat + 2) { b with v := max 0 (min v 60) } (max 0 (min v 60)) = o at o9 hmv hrl hro hrn hr2 ⊢
  unfold bodyRow
  refine nx_nil (nx_then (nx_seq (nx_seq (nx_region (nv v_fieldAddr (nv v_load1_o (nv v_move (nv v_geq (nx_nil (nx_then ?_))))))))))
  refine nx_cond_dec rfl (fun c49 => ?_) (fun c49 => ?_)
  rw [if_pos c49] at hmv
  refine nx_seq (nx_region (nv (v_build rfl rfl rfl) (st (k := nx_nil (nx_then (nx_ret (nx_then_ret ?_)))))))
  first
  | exact nx_ret1 rfl ro (rt ((Gh.le.trans le13 le45)) (by rw [hE]; exact ⟨_, _, _, rfl, ⟨hs9⟩⟩))
  | exact nx_ret1 rfl ro (rt ((Gh.le.trans le13 le45)) (by rw [hmv]; exact ⟨_, _, _, rfl, ⟨Sl.nil _ _⟩⟩))
  rw [if_neg c49] at hmv
  refine nx_skip (nx_then (nx_seq (nx_block ?_)))
  refine nx_loop_v (σ := Nat × Body × Value × List (Nat × Obj) × Gh) [0, 1, 2, 3, 4, 8, 10, 11, 12, 13, 14, 15, 16, 17, 18, 19, 20, 21, 22, 23, 24, 25, 26, 27, 28, 29, 30, 32, 33, 34, 35, 36, 37, 38, 39, 40, 42, 43, 44, 46, 47, 48, 49] (fun _ => []) (fun s => s.2.2.2.2) (fun s => (b11, row [.int .i64 s.2.1.mode, s.2.2.1, .int .i64 s.2.1.left, .int .i64 s.2.1.over, .int .i64 s.2.1.v] 33) :: (s.2.2.2.1 ++ _)) (fun s => ShI N len o G45 s.1 s.2.1 s.2.2.1 s.2.2.2.1 s.2.2.2.2) (fun s => s.1) (o.trail.length, o, v9, N9, G45) (.cons rfl (.cons rfl (.cons rfl (.cons rfl (.cons rfl (.cons rfl (.cons rfl (.cons rfl (.cons rfl (.cons rfl (.cons rfl (.cons rfl (.cons rfl (.cons rfl (.cons rfl (.cons rfl (.cons rfl (.cons rfl (.cons rfl (.cons rfl (.cons rfl (.cons rfl (.cons rfl (.cons rfl (.cons rfl (.cons rfl (.cons rfl (.cons rfl (.cons rfl (.cons rfl (.cons rfl (.cons rfl (.cons rfl (.cons rfl (.cons rfl (.cons rfl (.cons rfl (.cons rfl (.cons rfl (.cons rfl (.cons rfl (.cons rfl (.cons rfl (.nil)))))))))))))))))))))))))))))))))))))))))))) trivial ⟨Gh.le.refl _, o9, rfl, hrl, (by dsimp only; omega), hrn, Nat.le_refl _, (by dsimp only; omega)⟩ rfl rfl ?_
  rintro ⟨k, q, v8, N8, G8⟩ ⟨le8, o8, hI, ql, qo, qn, qk, qs⟩ K next
  dsimp only at le8 o8 hI ql qo qn qk qs ⊢
  have qpos := List.length_pos_iff.2 qn
  obtain ⟨k, rfl⟩ : ∃ j, k = j + 1 := ⟨k - 1, by omega⟩
  obtain ⟨tb, tc, tr, rfl, rfl, htc⟩ := o8.inv qn
  simp only [NetD.shorter] at hI
  refine nx_seq (nx_seq (nx_region (nv v_fieldAddr (nv v_load1_o (nv v_len (nv v_gtr (nv v_move ?_)))))))
  refine nx_guard_dec (t := 55) rfl (fun g55 => ?_) (fun g55 => ?_)
  refine nr v_move (nr v_load_o ?_)
  refine nx_op_run rfl rfl rfl (op_callB (b := tb) ((by repeat (first | exact Take.here | apply Take.cons | apply Take.app))) rfl rfl rfl (fun W hb hp => has_ok hp ((h.le (Gh.le.trans le13 (Gh.le.trans le45 le8))).le (Gh.put_le hb)) ⟨o8.lent hb⟩ hN.num qn (by omega) (by omega)) ?_)
  refine nr v_move (nr v_geq (nv v_pick_t (nx_nil (nx_then ?_))))
  refine nx_cond_dec rfl (fun c61 => ?_) (fun c61 => ?_)
  rw [if_pos ⟨by omega, c61⟩] at hI
  refine nx_skip (nx_then (nx_block (nx_region (nv v_fieldAddr (nv v_load1_o ?_)))))
  refine nx_op rfl (op_callR rfl rfl rfl (fun W hp => delete01_ok hp o8 (by omega)) (fun v64 G64 H64 le64 ph64 => ?_))
  obtain ⟨N64, rfl, o64⟩ := ph64
  obtain ⟨A64, c64, rfl, hc64⟩ := o64.val
  refine nv v_fieldAddr (st (k := nx_nil (nx_in _ (nx_then (nf (b := b11) (k := ?_))))))
  exact nn (next (k, { q with trail := q.trail.drop 1 }, .slice A64 _ c64, N64, _) ⟨le8.trans le64, o64, hI, ql, qo, (by intro h0; have := congrArg List.length h0; simp at this; omega), (by simp; omega), (by omega)⟩ (by dsimp only; omega))
  have hE : N.move pos len b v = q := by rw [hmv, ← hI, if_neg (fun h => by exact absurd h.1 (by omega))]
  refine nx_still o8 (by repeat (first | exact Pull.here | apply Pull.cons | apply Pull.app)) (fun G9 A9 d9 le9 hv9 hs9 => ?_)
  cases hv9
  refine nx_exit (nx_then_exit (nx_then_exit (nx_in_eq (nx_then (nx_seq (nx_region (nv v_load_o (st (k := nx_nil (nx_then (nx_ret ?_)))))))))))
  first
  | exact nx_ret1 rfl ro (rt ((Gh.le.trans le13 (Gh.le.trans le45 (Gh.le.trans le8 le9)))) (by rw [hE]; exact ⟨_, _, _, rfl, ⟨hs9⟩⟩))
  | exact nx_ret1 rfl ro (rt ((Gh.le.trans le13 (Gh.le.trans le45 (Gh.le.trans le8 le9)))) (by rw [hmv]; exact ⟨_, _, _, rfl, ⟨Sl.nil _ _⟩⟩))
  refine nk (k := nk (k := nk (k := nk (k := nk (k := nv v_pick_f (nx_nil (nx_then (nx_cond_f rfl ?_))))))))
  have hE : N.move pos len b v = q := by rw [hmv, ← hI, if_neg (fun h => by exact absurd h.1 (by omega))]
  refine nx_still o8 (by repeat (first | exact Pull.here | apply Pull.cons | apply Pull.app)) (fun G9 A9 d9 le9 hv9 hs9 => ?_)
  cases hv9
  refine nx_exit (nx_then_exit (nx_then_exit (nx_in_eq (nx_then (nx_seq (nx_region (nv v_load_o (st (k := nx_nil (nx_then (nx_ret ?_)))))))))))
  first
  | exact nx_ret1 rfl ro (rt ((Gh.le.trans le13 (Gh.le.trans le45 (Gh.le.trans le8 le9)))) (by rw [hE]; exact ⟨_, _, _, rfl, ⟨hs9⟩⟩))
  | exact nx_ret1 rfl ro (rt ((Gh.le.trans le13 (Gh.le.trans le45 (Gh.le.trans le8 le9)))) (by rw [hmv]; exact ⟨_, _, _, rfl, ⟨Sl.nil _ _⟩⟩))
  refine nk (k := nk (k := nv v_pick_f (nx_nil (nx_then (nx_cond_f rfl ?_)))))
  have hc1 : ¬ (b.mode = 1 ∧ max 0 (min v 60) = 0) := by simp_all
  have hmv : N.move pos len b v = if len ≤ (N.run pos { b with v := max 0 (min v 60) } (max 0 (min v 60))).over then ⟨3, [], 0, 0, 0⟩ else N.shorter len (N.run pos { b with v := max 0 (min v 60) } (max 0 (min v 60))).trail.length (N.run pos { b with v := max 0 (min v 60) } (max 0 (min v 60))) := by unfold NetD.move; rw [if_neg hc0, if_neg hc1]
  obtain ⟨hr1, hr2⟩ := run_range hN pos ((max 0 (min v 60)).toNat + 2) { b with v := max 0 (min v 60) } (max 0 (min v 60)) hlf.1 hlf.2 hov.1 hne
  obtain ⟨hrl, hro, hrn⟩ := hr1
  dsimp only at hro hr2
  refine nx_skip (nx_then (nx_seq (nx_region (nv v_move (nv v_move (nv v_move ?_))))))
  refine nx_op rfl (op_callR rfl rfl rfl (fun W hp => runs_ok (b0 := { b with v := max 0 (min v 60) }) hp o13 (h.le le13) hN (hs.le le13) (by omega) hlf hov hne (by dsimp only; omega)) (fun v45 G45 H45 le45 ph45 => ?_))
  obtain ⟨rfl, v9, N9, rfl, o9⟩ := ph45
  unfold NetD.run at o9 hmv ⊢
  generalize N.runF pos ((max 0 (min v 60)).toNat + 2) { b with v := max 0 (min v 60) } (max 0 (min v 60)) = o at o9 hmv hrl hro hrn hr2 ⊢
  unfold bodyRow
  refine nx_nil (nx_then (nx_seq (nx_seq (nx_region (nv v_fieldAddr (nv v_load1_o (nv v_move (nv v_geq (nx_nil (nx_then ?_))))))))))
  refine nx_cond_dec rfl (fun c49 => ?_) (fun c49 => ?_)
  rw [if_pos c49] at hmv
  refine nx_seq (nx_region (nv (v_build rfl rfl rfl) (st (k := nx_nil (nx_then (nx_ret (nx_then_ret ?_)))))))
  first
  | exact nx_ret1 rfl ro (rt ((Gh.le.trans le13 le45)) (by rw [hE]; exact ⟨_, _, _, rfl, ⟨hs9⟩⟩))
  | exact nx_ret1 rfl ro (rt ((Gh.le.trans le13 le45)) (by rw [hmv]; exact ⟨_, _, _, rfl, ⟨Sl.nil _ _⟩⟩))
  rw [if_neg c49] at hmv
  refine nx_skip (nx_then (nx_seq (nx_block ?_)))
  refine nx_loop_v (σ := Nat × Body × Value × List (Nat × Obj) × Gh) [0, 1, 2, 3, 4, 8, 10, 11, 12, 13, 14, 15, 16, 17, 18, 19, 20, 21, 22, 23, 24, 25, 26, 27, 28, 29, 30, 32, 33, 34, 35, 36, 37, 38, 39, 40, 42, 43, 44, 46, 47, 48, 49] (fun _ => []) (fun s => s.2.2.2.2) (fun s => (b11, row [.int .i64 s.2.1.mode, s.2.2.1, .int .i64 s.2.1.left, .int .i64 s.2.1.over, .int .i64 s.2.1.v] 33) :: (s.2.2.2.1 ++ _)) (fun s => ShI N len o G45 s.1 s.2.1 s.2.2.1 s.2.2.2.1 s.2.2.2.2) (fun s => s.1) (o.trail.length, o, v9, N9, G45) (.cons rfl (.cons rfl (.cons rfl (.cons rfl (.cons rfl (.cons rfl (.cons rfl (.cons rfl (.cons rfl (.cons rfl (.cons rfl (.cons rfl (.cons rfl (.cons rfl (.cons rfl (.cons rfl (.cons rfl (.cons rfl (.cons rfl (.cons rfl (.cons rfl (.cons rfl (.cons rfl (.cons rfl (.cons rfl (.cons rfl (.cons rfl (.cons rfl (.cons rfl (.cons rfl (.cons rfl (.cons rfl (.cons rfl (.cons rfl (.cons rfl (.cons rfl (.cons rfl (.cons rfl (.cons rfl (.cons rfl (.cons rfl (.cons rfl (.cons rfl (.nil)))))))))))))))))))))))))))))))))))))))))))) trivial ⟨Gh.le.refl _, o9, rfl, hrl, (by dsimp only; omega), hrn, Nat.le_refl _, (by dsimp only; omega)⟩ rfl rfl ?_
  rintro ⟨k, q, v8, N8, G8⟩ ⟨le8, o8, hI, ql, qo, qn, qk, qs⟩ K next
  dsimp only at le8 o8 hI ql qo qn qk qs ⊢
  have qpos := List.length_pos_iff.2 qn
  obtain ⟨k, rfl⟩ : ∃ j, k = j + 1 := ⟨k - 1, by omega⟩
  obtain ⟨tb, tc, tr, rfl, rfl, htc⟩ := o8.inv qn
  simp only [NetD.shorter] at hI
  refine nx_seq (nx_seq (nx_region (nv v_fieldAddr (nv v_load1_o (nv v_len (nv v_gtr (nv v_move ?_)))))))
  refine nx_guard_dec (t := 55) rfl (fun g55 => ?_) (fun g55 => ?_)
  refine nr v_move (nr v_load_o ?_)
  refine nx_op_run rfl rfl rfl (op_callB (b := tb) ((by repeat (first | exact Take.here | apply Take.cons | apply Take.app))) rfl rfl rfl (fun W hb hp => has_ok hp ((h.le (Gh.le.trans le13 (Gh.le.trans le45 le8))).le (Gh.put_le hb)) ⟨o8.lent hb⟩ hN.num qn (by omega) (by omega)) ?_)
  refine nr v_move (nr v_geq (nv v_pick_t (nx_nil (nx_then ?_))))
  refine nx_cond_dec rfl (fun c61 => ?_) (fun c61 => ?_)
  rw [if_pos ⟨by omega, c61⟩] at hI
  refine nx_skip (nx_then (nx_block (nx_region (nv v_fieldAddr (nv v_load1_o ?_)))))
  refine nx_op rfl (op_callR rfl rfl rfl (fun W hp => delete01_ok hp o8 (by omega)) (fun v64 G64 H64 le64 ph64 => ?_))
  obtain ⟨N64, rfl, o64⟩ := ph64
  obtain ⟨A64, c64, rfl, hc64⟩ := o64.val
  refine nv v_fieldAddr (st (k := nx_nil (nx_in _ (nx_then (nf (b := b11) (k := ?_))))))
  exact nn (next (k, { q with trail := q.trail.drop 1 }, .slice A64 _ c64, N64, _) ⟨le8.trans le64, o64, hI, ql, qo, (by intro h0; have := congrArg List.length h0; simp at this; omega), (by simp; omega), (by omega)⟩ (by dsimp only; omega))
  have hE : N.move pos len b v = q := by rw [hmv, ← hI, if_neg (fun h => by exact absurd h.1 (by omega))]
  refine nx_still o8 (by repeat (first | exact Pull.here | apply Pull.cons | apply Pull.app)) (fun G9 A9 d9 le9 hv9 hs9 => ?_)
  cases hv9
  refine nx_exit (nx_then_exit (nx_then_exit (nx_in_eq (nx_then (nx_seq (nx_region (nv v_load_o (st (k := nx_nil (nx_then (nx_ret ?_)))))))))))
  first
  | exact nx_ret1 rfl ro (rt ((Gh.le.trans le13 (Gh.le.trans le45 (Gh.le.trans le8 le9)))) (by rw [hE]; exact ⟨_, _, _, rfl, ⟨hs9⟩⟩))
  | exact nx_ret1 rfl ro (rt ((Gh.le.trans le13 (Gh.le.trans le45 (Gh.le.trans le8 le9)))) (by rw [hmv]; exact ⟨_, _, _, rfl, ⟨Sl.nil _ _⟩⟩))
  refine nk (k := nk (k := nk (k := nk (k := nk (k := nv v_pick_f (nx_nil (nx_then (nx_cond_f rfl ?_))))))))
  have hE : N.move pos len b v = q := by rw [hmv, ← hI, if_neg (fun h => by exact absurd h.1 (by omega))]
  refine nx_still o8 (by repeat (first | exact Pull.here | apply Pull.cons | apply Pull.app)) (fun G9 A9 d9 le9 hv9 hs9 => ?_)
  cases hv9
  refine nx_exit (nx_then_exit (nx_then_exit (nx_in_eq (nx_then (nx_seq (nx_region (nv v_load_o (st (k := nx_nil (nx_then (nx_ret ?_)))))))))))
  first
  | exact nx_ret1 rfl ro (rt ((Gh.le.trans le13 (Gh.le.trans le45 (Gh.le.trans le8 le9)))) (by rw [hE]; exact ⟨_, _, _, rfl, ⟨hs9⟩⟩))
  | exact nx_ret1 rfl ro (rt ((Gh.le.trans le13 (Gh.le.trans le45 (Gh.le.trans le8 le9)))) (by rw [hmv]; exact ⟨_, _, _, rfl, ⟨Sl.nil _ _⟩⟩))
end Go.Proofs.YtjckojnlapchoaaGreat
namespace Go.Proofs
open Go.Shelf
def Tryz.lays189_ren : Go.Shelf.Ren := ⟨fun | 189 => 166 | 125 => 199 | 257 => 198 | 128 => 213 | 129 => 214 | 294 => 204 | 295 => 205 | 296 => 206 | 297 => 207 | 298 => 208 | 299 => 209 | 216 => 210 | 300 => 211 | 301 => 212 | 328 => 216 | 329 => 217 | 330 => 218 | 331 => 219 | 332 => 220 | 215 => 221 | 343 => 222 | n => n, fun | 28 => 28 | 3 => 3 | 46 => 276 | 0 => 0 | 51 => 290 | 53 => 292 | 4 => 4 | 183 => 284 | 182 => 283 | 131 => 86 | 5 => 5 | 9 => 9 | 218 => 294 | 222 => 298 | 228 => 300 | 229 => 301 | n => n, fun | n => n⟩
theorem Tryz.lays189 : Go.Proofs.Lays.n189 Tryz.prog Tryz.lays189_ren := {
  mixed := by kernel_rfl
  f125 := Tryz.func199.trans (congrArg some (by kernel_rfl))
  f128 := Tryz.func213.trans (congrArg some (by kernel_rfl))
  f129 := Tryz.func214.trans (congrArg some (by kernel_rfl))
  f189 := Tryz.func166.trans (congrArg some (by kernel_rfl))
  f215 := Tryz.func221.trans (congrArg some (by kernel_rfl))
  f216 := Tryz.func210.trans (congrArg some (by kernel_rfl))
  f257 := Tryz.func198.trans (congrArg some (by kernel_rfl))
  f294 := Tryz.func204.trans (congrArg some (by kernel_rfl))
  f295 := Tryz.func205.trans (congrArg some (by kernel_rfl))
  f296 := Tryz.func206.trans (congrArg some (by kernel_rfl))
  f297 := Tryz.func207.trans (congrArg some (by kernel_rfl))
  f298 := Tryz.func208.trans (congrArg some (by kernel_rfl))
  f299 := Tryz.func209.trans (congrArg some (by kernel_rfl))
  f300 := Tryz.func211.trans (congrArg some (by kernel_rfl))
  f301 := Tryz.func212.trans (congrArg some (by kernel_rfl))
  f328 := Tryz.func216.trans (congrArg some (by kernel_rfl))
  f329 := Tryz.func217.trans (congrArg some (by kernel_rfl))
  f330 := Tryz.func218.trans (congrArg some (by kernel_rfl))
  f331 := Tryz.func219.trans (congrArg some (by kernel_rfl))
  f332 := Tryz.func220.trans (congrArg some (by kernel_rfl))
  f343 := Tryz.func222.trans (congrArg some (by kernel_rfl))
  t0 := Tryz.underlying0
  a0 := Tryz.isAgg0
  z0 := Tryz.sizeOf0
  v0 := Tryz.zeroValue0
  t3 := Tryz.underlying3
  a3 := Tryz.isAgg3
  z3 := Tryz.sizeOf3
  v3 := Tryz.zeroValue3
  t4 := Tryz.underlying4
  a4 := Tryz.isAgg4
  z4 := Tryz.sizeOf4
  v4 := Tryz.zeroValue4
  t5 := Tryz.underlying5
  a5 := Tryz.isAgg5
  z5 := Tryz.sizeOf5
  v5 := Tryz.zeroValue5
  t9 := Tryz.underlying9
  a9 := Tryz.isAgg9
  z9 := Tryz.sizeOf9
  v9 := Tryz.zeroValue9
  t28 := Tryz.underlying28
  a28 := Tryz.isAgg28
  z28 := Tryz.sizeOf28
  v28 := Tryz.zeroValue28
  t46 := Tryz.underlying276
  a46 := Tryz.isAgg276
  z46 := Tryz.sizeOf276
  v46 := Tryz.zeroValue276
  t51 := Tryz.underlying290
  a51 := Tryz.isAgg290
  z51 := Tryz.sizeOf290
  v51 := Tryz.zeroValue290
  t53 := Tryz.underlying292
  a53 := Tryz.isAgg292
  z53 := Tryz.sizeOf292
  v53 := Tryz.zeroValue292
  t131 := Tryz.underlying86
  a131 := Tryz.isAgg86
  z131 := Tryz.sizeOf86
  v131 := Tryz.zeroValue86
  t182 := Tryz.underlying283
  a182 := Tryz.isAgg283
  z182 := Tryz.sizeOf283
  v182 := Tryz.zeroValue283
  t183 := Tryz.underlying284
  a183 := Tryz.isAgg284
  z183 := Tryz.sizeOf284
  v183 := Tryz.zeroValue284
  t218 := Tryz.underlying294
  a218 := Tryz.isAgg294
  z218 := Tryz.sizeOf294
  v218 := Tryz.zeroValue294
  t222 := Tryz.underlying298
  a222 := Tryz.isAgg298
  z222 := Tryz.sizeOf298
  v222 := Tryz.zeroValue298
  t228 := Tryz.underlying300
  a228 := Tryz.isAgg300
  z228 := Tryz.sizeOf300
  v228 := Tryz.zeroValue300
  t229 := Tryz.underlying301
  a229 := Tryz.isAgg301
  z229 := Tryz.sizeOf301
  v229 := Tryz.zeroValue301 }
open Go.Sort Go.RowKit in
theorem Tryz.slices_Sort_int (blk off cap : Nat) (zs : List Int) (w : World) (hH : Holds (Value.int .i64) w blk off zs.toArray) (hblk : blk < w.heap.size) (hsz : zs.length < 4611686018427387904) :
    Calls Tryz.prog 166 #[.slice (some ⟨blk, off, none⟩) zs.length cap] w fun e w' =>
      e = .returned (.tuple #[]) ∧ ∃ n os, w' = grow (putRow (Value.int .i64) (Sort.ahead w n) blk off (zs.mergeSort fun x y => decide (x ≤ y)).toArray) os := Any.slices_Sort_int Tryz.lays189 blk off cap zs w hH hblk hsz
def Tryz.laysNm220_ren : Go.Shelf.Ren := ⟨fun | 20 => 167 | n => n, fun | 22 => 28 | 3 => 3 | 4 => 4 | 0 => 0 | n => n, fun | n => n⟩
theorem Tryz.laysNm220 : Go.Proofs.Lays2.n20 Tryz.prog Tryz.laysNm220_ren := {
  mixed := by kernel_rfl
  f20 := Tryz.func167.trans (congrArg some (by kernel_rfl))
  t0 := Tryz.underlying0
  a0 := Tryz.isAgg0
  z0 := Tryz.sizeOf0
  v0 := Tryz.zeroValue0
  t3 := Tryz.underlying3
  a3 := Tryz.isAgg3
  z3 := Tryz.sizeOf3
  v3 := Tryz.zeroValue3
  t4 := Tryz.underlying4
  a4 := Tryz.isAgg4
  z4 := Tryz.sizeOf4
  v4 := Tryz.zeroValue4
  t22 := Tryz.underlying28
  a22 := Tryz.isAgg28
  z22 := Tryz.sizeOf28
  v22 := Tryz.zeroValue28
  i3 := by kernel_rfl }
open Go.RowKit Go.Lib Go.Sort in
open Go.RowKit Go.Lib Go.Sort in
theorem Tryz.slices_Compact_int (blk off cap : Nat) (zs : List Int) (w : World) (hH : Holds (Value.int .i64) w blk off zs.toArray) (hsz : zs.length ≤ 9223372036854775807) (hcap : zs.length ≤ cap) :
    Calls Tryz.prog 167 #[.slice (some ⟨blk, off, none⟩) zs.length cap] w fun e w' => e = .returned (.slice (some ⟨blk, off, none⟩) (Lib.compact zs).length cap) ∧ ∃ q, w' = putRow (Value.int .i64) (Sort.ahead w q) blk off (Lib.compact zs ++ List.replicate (zs.length - (Lib.compact zs).length) 0).toArray := Any.slices_Compact_int Tryz.laysNm220 blk off cap zs w hH hsz hcap
open Go.RowKit Go.Lib Go.Sort in
theorem Tryz.slices_Compact_int_empty (a : Option Addr) (cap : Nat) (w : World) :
    Calls Tryz.prog 167 #[.slice a 0 cap] w fun e w' => e = .returned (.slice a 0 cap) ∧ w' = w := Any.slices_Compact_int_empty Tryz.laysNm220 a cap w
end Go.Proofs
open Go Go.RowKit Go.Sort Go.Lib
namespace Go.Proofs.YtjckojnlapchoaaGreat
open Go.Proofs
def ins (x : Int) : List Int → List Int
  | [] => [x]
  | y :: r => if x ≤ y then x :: y :: r else y :: ins x r
def isort : List Int → List Int
  | [] => []
  | x :: r => ins x (isort r)
theorem ins_perm (x : Int) : ∀ l : List Int, (ins x l).Perm (x :: l)
  | [] => .refl _
  | y :: r => by
    unfold ins
    split
    · exact .refl _
    · exact ((ins_perm x r).cons y).trans (.swap ..)
theorem isort_perm : ∀ l : List Int, (isort l).Perm l
  | [] => .refl _
  | x :: r => (ins_perm x (isort r)).trans ((isort_perm r).cons x)
theorem ins_pairwise (x : Int) : ∀ {l : List Int}, l.Pairwise (· ≤ ·) → (ins x l).Pairwise (· ≤ ·)
  | [], _ => by simp [ins]
  | y :: r, h => by
    unfold ins
    split
    · rename_i hxy
      refine List.pairwise_cons.2 ⟨fun z hz => ?_, h⟩
      rcases List.mem_cons.1 hz with rfl | hz
      · exact hxy
      · exact Int.le_trans hxy ((List.pairwise_cons.1 h).1 z hz)
    · rename_i hxy
      have h' := List.pairwise_cons.1 h
      refine List.pairwise_cons.2 ⟨fun z hz => ?_, ins_pairwise x h'.2⟩
      rcases List.mem_cons.1 ((ins_perm x r).mem_iff.1 hz) with rfl | hz
      · omega
      · exact h'.1 z hz
theorem isort_pairwise : ∀ l : List Int, (isort l).Pairwise (· ≤ ·)
  | [] => .nil
  | x :: r => ins_pairwise x (isort_pairwise r)
theorem isort_eq (l : List Int) : l.mergeSort (fun x y => decide (x ≤ y)) = isort l := by
  have tr : ∀ a b c : Int, decide (a ≤ b) = true → decide (b ≤ c) = true → decide (a ≤ c) = true := fun a b c h1 h2 => by simp only [decide_eq_true_eq] at *; exact Int.le_trans h1 h2
  have to : ∀ a b : Int, (decide (a ≤ b) || decide (b ≤ a)) = true := fun a b => by simp only [Bool.or_eq_true, decide_eq_true_eq]; exact Int.le_total a b
  refine List.Perm.eq_of_pairwise (le := fun a b => decide (a ≤ b) = true) (fun a b _ _ h1 h2 => ?_) (List.pairwise_mergeSort tr to l) ((isort_pairwise l).imp (fun h => by simpa using h)) ((List.mergeSort_perm l _).trans (isort_perm l).symm)
  simp only [decide_eq_true_eq] at h1 h2
  exact Int.le_antisymm h1 h2
theorem isort_length (l : List Int) : (isort l).length = l.length := (isort_perm l).length_eq
theorem mapBlock_at {w : World} {b : Nat} {f : Array Value → Array Value} {c : Array Value} {T : TypeId} {fr : Nat × Nat} (h : w.heap[b]? = some (.cells c T fr)) : (mapBlock w b f).heap[b]? = some (.cells (f c) T fr) := by
  simp [mapBlock, Array.getElem?_modify, h, onCells]
theorem mapBlock_ne {w : World} {b k : Nat} {f : Array Value → Array Value} (h : k ≠ b) : (mapBlock w b f).heap[k]? = w.heap[k]? := by
  simp [mapBlock, Array.getElem?_modify, Ne.symm h]
theorem Hp.putGrow {G : Gh} {H : List (Nat × Obj)} {W W' : World} {b : Nat} {c c' : Array Value} {T : TypeId} {fr : Nat × Nat} (h : Hp G ((b, .cells c T fr) :: H) W) (f : Array Value → Array Value) (hc : f c = c') (q : Nat) (os : Array Obj)
    (hw : W' = grow (mapBlock (Sort.ahead W q) b f) os) : Hp G ((b, .cells c' T fr) :: H) W' := by
  subst hw hc
  have h1 : Hp G ((b, .cells (f c) T fr) :: H) (mapBlock (Sort.ahead W q) b f) := by
    have h0 : Hp G ((b, .cells c T fr) :: H) (Sort.ahead W q) := ⟨h.os, h.tape, h.output, h.imm, h.mem, h.apart, h.nodup⟩
    exact h0.write rfl rfl rfl (mapBlock_at (h0.mem b _ List.mem_cons_self)) (fun k hk => mapBlock_ne hk)
  have hgr : ∀ (k : Nat) (o : Obj), (mapBlock (Sort.ahead W q) b f).heap[k]? = some o → (grow (mapBlock (Sort.ahead W q) b f) os).heap[k]? = some o := by
    intro k o hk
    have := (Array.getElem?_eq_some_iff.1 hk).1
    show ((mapBlock (Sort.ahead W q) b f).heap ++ os)[k]? = some o
    rw [Array.getElem?_append_left this]; exact hk
  exact ⟨h1.os, h1.tape, h1.output, fun k o hk => hgr k o (h1.imm k o hk), fun k o hk => hgr k o (h1.mem k o hk), h1.apart, h1.nodup⟩
theorem putCells_size {α : Type} [Inhabited α] {enc : α → Value} {off : Nat} {d : Array α} {c : Array Value} : (putCells enc off d c).size = c.size := by simp [putCells]
theorem putCells_take {enc : Int → Value} {l : List Int} {c : Array Value} (h : l.length ≤ c.size) : (putCells enc 0 l.toArray c).toList.take l.length = l.map enc := by
  apply List.ext_getElem?
  intro j
  simp only [List.getElem?_take, Array.getElem?_toList, putCells, Array.getElem?_mapIdx, List.getElem?_map]
  by_cases hj : j < l.length
  · have hc : j < c.size := by omega
    simp [hj, hc]
  · simp [hj]
theorem flat_one {α β : Type} (f : α → β) : ∀ l : List α, (l.flatMap fun x => [f x]) = l.map f
  | [] => rfl
  | x :: l => by rw [List.flatMap_cons, flat_one f l]; rfl
theorem rows_int_map {G : Gh} (l : List Int) : Rows tInt G (l.map fun x => .int .i64 x) l := by
  have := rows_Int (G := G) l
  rwa [flat_one] at this
theorem Rows.ints {G : Gh} {xs : List Value} {l : List Int} (h : Rows tInt G xs l) : xs = l.map fun x => .int .i64 x := by
  induction h with
  | nil => rfl
  | cons h _ ih => obtain rfl : _ = [_] := h; simp [ih]
theorem sortO_ok {G : Gh} {H : List (Nat × Obj)} {W : World} {l : List Int} {v : Value} {N : List (Nat × Obj)} (hp : Hp G (N ++ H) W) (ho : OwnS tInt 3 G l v N) (hne : l ≠ []) (hlen : l.length ≤ 1000000) :
    Calls Tryz.prog 166 ⟨[v]⟩ W (Ret G (fun G' H' u => u = .tuple #[] ∧ G' = G ∧ ∃ N', H' = N' ++ H ∧ OwnS tInt 3 G (isort l) v N')) := by
  obtain ⟨b, c, r, rfl, rfl, hc, hm, hs, hr⟩ := ho.inv hne
  have hs1 : r.length = c := by rw [hs]; exact Nat.mul_one c
  have hcells : r.take l.length = l.map fun x => .int .i64 x := by
    have := hr.ints
    rwa [show l.length * tInt.sz = l.length from Nat.mul_one _] at this
  have hmem := hp.mem b _ (List.mem_append_left H List.mem_cons_self)
  have hH : Holds (Value.int .i64) W b 0 l.toArray := by
    intro j hj
    simp only [List.size_toArray] at hj
    have h1 : r[j]? = some (.int .i64 l[j]) := by
      have := congrArg (fun q => q[j]?) hcells
      simpa [List.getElem?_take, hj] using this
    constructor
    · simp only [World.cell?, hmem, row, Nat.zero_add]
      have : (⟨r⟩ : Array Value)[j]? = some (.int .i64 l[j]) := by simpa using h1
      rw [this]; simp [hj]
    · simp [World.frozen?, hmem, row]
  have hlt : b < W.heap.size := hp.lt (List.mem_append_left H List.mem_cons_self)
  refine (Tryz.slices_Sort_int b 0 c l W hH hlt (by omega)).mono ?_
  rintro en W' ⟨rfl, q, os, hw⟩
  rw [isort_eq] at hw
  refine ⟨_, G, (b, row (putCells (Value.int .i64) 0 (isort l).toArray ⟨r⟩).toList 3) :: H, rfl, Gh.le.refl _, ⟨rfl, rfl, [(b, _)], rfl, ?_⟩, ?_⟩
  · have hl := isort_length l
    refine OwnS.mk (by omega) hm ?_ ?_ hl.symm
    · rw [Array.length_toList, putCells_size]; exact hs
    · rw [show (isort l).length * tInt.sz = (isort l).length from Nat.mul_one _, putCells_take (by simp; omega)]
      exact rows_int_map _
  · have h1 : Hp G ((b, .cells ⟨r⟩ 3 (0, 0)) :: H) W := hp
    exact h1.putGrow _ rfl q os hw
def keepF (p : Option Int) : List Int → List Int
  | [] => []
  | x :: r => if p = some x then keepF (some x) r else x :: keepF (some x) r
theorem keep_range (d : Array Int) : ∀ (k m : Nat), k + m = d.size → (((List.range' k m).filter (keeps d)).map (d[·]!)) = keepF (if k = 0 then none else some d[k - 1]!) (d.toList.drop k)
  | k, 0, h => by rw [List.drop_eq_nil_of_le (by simp; omega)]; rfl
  | k, m + 1, h => by
    have hk : k < d.size := by omega
    have ih := keep_range d (k + 1) m (by omega)
    rw [List.drop_eq_getElem_cons (by simpa using hk), List.range'_succ, List.filter_cons]
    rw [if_neg (by omega), Nat.add_sub_cancel] at ih
    have hg : d[k]! = d[k] := getElem!_pos d k hk
    have hg' : d.toList[k]'(by simpa using hk) = d[k]! := by rw [hg]; simp
    rw [hg']
    by_cases h0 : k = 0
    · subst h0
      have hkp : keeps d 0 = true := by simp [keeps]
      rw [if_pos hkp, List.map_cons, ih]
      rfl
    · rw [if_neg h0]
      by_cases he : d[k]! = d[k - 1]!
      · have hkp : keeps d k = false := by simp [keeps, he, h0]
        rw [hkp]
        simp only [Bool.false_eq_true, if_false]
        rw [ih]
        show _ = if some d[k - 1]! = some d[k]! then _ else _
        rw [if_pos (by rw [he])]
      · have hkp : keeps d k = true := by simp [keeps, he, h0]
        rw [if_pos hkp, List.map_cons, ih]
        show _ = if some d[k - 1]! = some d[k]! then _ else _
        rw [if_neg (fun e => he (by simpa using e.symm))]
def dedup (l : List Int) : List Int := keepF none l
theorem compact_eq (l : List Int) : Lib.compact l = dedup l := by
  unfold Lib.compact Lib.compactUpTo dedup
  have := keep_range l.toArray 0 l.length (by simp)
  rw [List.range_eq_range']
  simpa using this
theorem keepF_length : ∀ (p : Option Int) (l : List Int), (keepF p l).length ≤ l.length
  | _, [] => Nat.le_refl _
  | p, x :: r => by
    have := keepF_length (some x) r
    unfold keepF
    split <;> simp <;> omega
theorem compactO_ok {G : Gh} {H : List (Nat × Obj)} {W : World} {l : List Int} {v : Value} {N : List (Nat × Obj)} (hp : Hp G (N ++ H) W) (ho : OwnS tInt 3 G l v N) (hne : l ≠ []) (hlen : l.length ≤ 1000000) :
    Calls Tryz.prog 167 ⟨[v]⟩ W (Ret G (fun G' H' u => G' = G ∧ ∃ N', H' = N' ++ H ∧ OwnS tInt 3 G (dedup l) u N')) := by
  obtain ⟨b, c, r, rfl, rfl, hc, hm, hs, hr⟩ := ho.inv hne
  have hs1 : r.length = c := by rw [hs]; exact Nat.mul_one c
  have hcells : r.take l.length = l.map fun x => .int .i64 x := by
    have := hr.ints
    rwa [show l.length * tInt.sz = l.length from Nat.mul_one _] at this
  have hmem := hp.mem b _ (List.mem_append_left H List.mem_cons_self)
  have hH : Holds (Value.int .i64) W b 0 l.toArray := by
    intro j hj
    simp only [List.size_toArray] at hj
    have h1 : r[j]? = some (.int .i64 l[j]) := by
      have := congrArg (fun q => q[j]?) hcells
      simpa [List.getElem?_take, hj] using this
    constructor
    · simp only [World.cell?, hmem, row, Nat.zero_add]
      have : (⟨r⟩ : Array Value)[j]? = some (.int .i64 l[j]) := by simpa using h1
      rw [this]; simp [hj]
    · simp [World.frozen?, hmem, row]
  refine (Tryz.slices_Compact_int b 0 c l W hH (by omega) hc).mono ?_
  rintro en W' ⟨rfl, q, hw⟩
  rw [compact_eq] at hw ⊢
  have hdl : (dedup l).length ≤ l.length := keepF_length none l
  refine ⟨_, G, (b, row (putCells (Value.int .i64) 0 (dedup l ++ List.replicate (l.length - (dedup l).length) 0).toArray ⟨r⟩).toList 3) :: H, rfl, Gh.le.refl _, ⟨rfl, [(b, _)], rfl, ?_⟩, ?_⟩
  · refine OwnS.mk (by omega) hm ?_ ?_ rfl
    · rw [Array.length_toList, putCells_size]; exact hs
    · rw [show (dedup l).length * tInt.sz = (dedup l).length from Nat.mul_one _]
      have h1 := putCells_take (enc := Value.int .i64) (l := dedup l ++ List.replicate (l.length - (dedup l).length) 0) (c := ⟨r⟩) (by simp; omega)
      have h2 := congrArg (List.take (dedup l).length) h1
      rw [List.take_take, Nat.min_eq_left (by simp), List.map_append, List.take_left' (by simp)] at h2
      rw [h2]
      exact rows_int_map _
  · have h1 : Hp G ((b, .cells ⟨r⟩ 3 (0, 0)) :: H) W := hp
    exact h1.putGrow (putCells (Value.int .i64) 0 (dedup l ++ List.replicate (l.length - (dedup l).length) 0).toArray) rfl q #[] (by rw [hw]; simp [putRow])
theorem sortN_ok {G : Gh} {H : List (Nat × Obj)} {W : World} {l : List Int} {v : Value} {N : List (Nat × Obj)} (hp : Hp G (N ++ H) W) (ho : OwnS tInt 3 G l v N) (hlen : l.length ≤ 1000000) :
    Calls Tryz.prog 166 ⟨[v]⟩ W (Ret G (fun G' H' u => u = .tuple #[] ∧ G' = G ∧ ∃ N', H' = N' ++ H ∧ OwnS tInt 3 G (isort l) v N')) := by
  by_cases hne : l = []
  · subst hne
    obtain ⟨A, c, rfl, _⟩ := ho.val
    have h0 : Calls Tryz.prog 166 #[.slice A 0 c] W fun e w' => e = .returned (.tuple #[]) ∧ w' = W := Any.slices_Sort_int_none Tryz.lays189 A c W
    refine h0.mono ?_
    rintro en W' ⟨rfl, rfl⟩
    exact ⟨_, G, N ++ H, rfl, Gh.le.refl _, ⟨rfl, rfl, N, rfl, ho⟩, hp⟩
  · exact sortO_ok hp ho hne hlen
theorem compactN_ok {G : Gh} {H : List (Nat × Obj)} {W : World} {l : List Int} {v : Value} {N : List (Nat × Obj)} (hp : Hp G (N ++ H) W) (ho : OwnS tInt 3 G l v N) (hlen : l.length ≤ 1000000) :
    Calls Tryz.prog 167 ⟨[v]⟩ W (Ret G (fun G' H' u => G' = G ∧ ∃ N', H' = N' ++ H ∧ OwnS tInt 3 G (dedup l) u N')) := by
  by_cases hne : l = []
  · subst hne
    obtain ⟨A, c, rfl, _⟩ := ho.val
    refine (Tryz.slices_Compact_int_empty A c W).mono ?_
    rintro en W' ⟨rfl, rfl⟩
    exact ⟨_, G, N ++ H, rfl, Gh.le.refl _, ⟨rfl, N, rfl, ho⟩, hp⟩
  · exact compactO_ok hp ho hne hlen
end Go.Proofs.YtjckojnlapchoaaGreat
open Go Go.RowKit
namespace Go.Proofs.YtjckojnlapchoaaGreat
open Go.Proofs
def liesRaw (p : Plan) (l : List Port) : List Int := (l.filter fun h => decide (¬ p.kind h.elem = 4)).map (·.elem)
def lies (p : Plan) (b : Body) : List Int := dedup (isort (liesRaw p b.trail))
theorem liesRaw_snoc (p : Plan) (l : List Port) (x : Port) : liesRaw p (l ++ [x]) = if p.kind x.elem = 4 then liesRaw p l else liesRaw p l ++ [x.elem] := by
  unfold liesRaw
  rw [List.filter_append, List.map_append]
  by_cases h : p.kind x.elem = 4 <;> simp [h]
theorem liesRaw_length (p : Plan) (l : List Port) : (liesRaw p l).length ≤ l.length := by unfold liesRaw; rw [List.length_map]; exact List.length_filter_le _ _
theorem take_snoc {α : Type} {l : List α} {k : Nat} {x : α} (h : l[k]? = some x) : l.take (k + 1) = l.take k ++ [x] := by rw [List.take_add_one, h]; rfl
set_option maxRecDepth 20000 in
set_option maxHeartbeats 1000000 in
theorem lies_run {G : Gh} {H : List (Nat × Obj)} {W : World} (hp : Hp G H W) {g : Nat} {N : NetD} (h : NetAt G g N) {A1 : Option Addr} {n1 c1 : Nat} {b : Body} (bt : Body.At G A1 n1 c1 b) (hn : n1 ≤ 1000000) : Calls Tryz.prog 109 ⟨[.pointer (some ⟨g, 0, none⟩), .agg ⟨[.int .i64 b.mode, .slice A1 n1 c1, .int .i64 b.left, .int .i64 b.over, .int .i64 b.v]⟩]⟩ W (RetD G H (IsSl tInt (lies N.p b))) := by
  have hl := bt.h1.length
  have hb := Nat.le_trans bt.h1.cap bt.h1.room
  refine enter Tryz.func109 rfl Tryz.ntmps109 (Nat.le_of_ble_eq_true rfl) hp (nx_seq (nx_region ?_))
  refine nx_op rfl (op_box rfl rfl (fun b3 => ?_))
  refine nv v_assign (nx_nil (nx_then (nx_seq (nx_region (nv v_assign (nx_nil (nx_then (nx_seq (nx_seq (nx_region (nv v_fieldAddr ?_)))))))))))
  refine nv v_load1_o (nv v_len (nv v_move (nx_nil (nx_then (nx_block ?_)))))
  refine nx_loop_v (σ := Nat × Value × List (Nat × Obj)) [0, 1, 3, 4, 8, 9, 10] (fun s => [(11, .int .i64 (s.1 : Int)), (5, s.2.1)]) (fun _ => G) (fun s => s.2.2 ++ _) (fun s => s.1 ≤ n1 ∧ OwnS tInt 3 G (liesRaw N.p (b.trail.take s.1)) s.2.1 s.2.2) (fun s => n1 - s.1) (0, .slice none 0 0, []) (.cons rfl (.cons rfl (.cons rfl (.cons rfl (.cons rfl (.cons rfl (.cons rfl (.nil)))))))) ⟨rfl, rfl, trivial⟩ ⟨Nat.zero_le _, .nil rfl⟩ rfl rfl ?_
  rintro ⟨k, v, Nb⟩ ⟨hk, ho⟩ K next
  dsimp only at hk ho ⊢
  refine nx_seq (nx_region (nv v_lss (nx_nil (nx_then (nx_seq ?_)))))
  refine nx_cond_dec rfl (fun c12 => ?_) (fun c12 => ?_)
  obtain ⟨x, rest, hd, hx⟩ := drop_of_lt (xs := b.trail) (k := k) (by omega)
  obtain ⟨xb, xo, xe, xk, xr, xf0, xf1⟩ := next_Port bt.h1 hd
  cases xe
  have hsn := liesRaw_snoc N.p (b.trail.take k) x
  rw [← take_snoc hx] at hsn
  have hrl := liesRaw_length N.p (b.trail.take k)
  rw [List.length_take] at hrl
  refine nx_skip (nx_then (nx_seq (nx_block (nx_seq (nx_region (nv (v_indexAddr_nat rfl rfl rfl (by omega)) (nv v_load_s ?_)))))))
  refine nx_op rfl (op_alloc rfl (fun b7 => ?_))
  refine st (k := nx_nil (nx_then (nx_seq (nx_region (nv v_move (nv v_fieldAddr (nv v_load1_o ?_)))))))
  refine nx_op rfl (op_callS rfl rfl rfl (fun W hp => kind_ok hp h x.elem) ?_)
  refine nv v_neq (nx_nil (nx_then ?_))
  refine nx_cond_dec rfl (fun c19 => ?_) (fun c19 => ?_)
  rw [if_neg c19] at hsn
  refine nx_region (nv v_move (nv v_fieldAddr (nv v_load1_o ?_)))
  refine nx_op rfl (op_buildSlice rfl rfl rfl rfl rfl (fun b23 => ?_))
  refine nx_op rfl (op_append (T := tInt) rfl rfl rfl ho (by repeat (first | exact Pull.here | apply Pull.cons | apply Pull.app)) (Src.row List.mem_cons_self (rows_Int [x.elem]) rfl) (by simp; omega) (by simp [maxLen]; omega) (fun v24 N24 o24 => ?_))
  refine nv v_assign (nx_nil (nx_in _ (nx_then (nx_region (nv v_add (nv v_move (nx_nil (nx_then ?_))))))))
  rw [← hsn] at o24
  exact nn (next (k + 1, v24, N24) ⟨(by dsimp only; omega), o24⟩ (by dsimp only; omega))
  rw [if_pos (Decidable.not_not.1 c19)] at hsn
  refine nx_skip (nx_in _ (nx_then (nx_region (nv v_add (nv v_move (nx_nil (nx_then ?_)))))))
  rw [← hsn] at ho
  exact nn (next (k + 1, v, Nb) ⟨(by dsimp only; omega), ho⟩ (by dsimp only; omega))
  obtain rfl : k = n1 := by omega
  rw [List.take_of_length_le (by omega)] at ho
  have hrl := liesRaw_length N.p b.trail
  refine nx_exit (nx_then_exit (nx_then_exit (nx_in_eq (nx_then (nx_seq (nx_region (nv v_move ?_)))))))
  refine nx_op rfl (op_callR rfl rfl rfl (fun W hp => sortN_ok hp ho (by omega)) (fun v27 G27 H27 le27 ph27 => ?_))
  obtain ⟨rfl, rfl, N27, rfl, o27⟩ := ph27
  refine nx_nil (nx_then (nx_seq (nx_region (nv v_move ?_))))
  refine nx_op rfl (op_callR rfl rfl rfl (fun W hp => compactN_ok hp o27 (by rw [isort_length]; omega)) (fun v29 G29 H29 le29 ph29 => ?_))
  obtain ⟨rfl, N29, rfl, o29⟩ := ph29
  refine nv v_assign (nx_nil (nx_then (nx_ret ?_)))
  refine nx_still o29 (by repeat (first | exact Pull.here | apply Pull.cons | apply Pull.app)) (fun G9 A9 c9 le9 hv9 hs9 => ?_)
  subst hv9
  exact nx_ret1 rfl (.tmp rfl) (rt le9 (IsSl.of hs9))
end Go.Proofs.YtjckojnlapchoaaGreat
