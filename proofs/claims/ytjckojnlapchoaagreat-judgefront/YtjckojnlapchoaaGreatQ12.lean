/- Part 12 of a proof of a law over the program: Flank1, Flank2, Flank3, Chart1. Conditions: none beyond what each statement says. -/
import Derived.Test.YtjckojnlapchoaaGreatQ11
set_option linter.unusedVariables false
set_option linter.unusedSimpArgs false
open Go Go.RowKit
namespace Go.Proofs.YtjckojnlapchoaaGreat
open Go.Proofs
def zAdd (z : List Int) (bare : Bool) (e : Int) : List Int × Bool × Bool := if z.contains e then (z, bare, true) else if 12 ≤ z.length then (z, true, false) else (z ++ [e], bare, true)
def onT (N : NetD) (todo : List Port) (e i : Int) : List Port := match getK N.next ⟨e, i⟩ with
  | some x => todo ++ [x]
  | none => todo
set_option maxRecDepth 20000 in
set_option maxHeartbeats 1000000 in
theorem zone_ok {G : Gh} {H : List (Nat × Obj)} {W : World} {b3 : Nat} {v0 v1 v2 v3 v4 v5 v7 : Value} {z : List Int} {Az : Option Addr} {cz : Nat} {bare : Bool} {Nz : List (Nat × Obj)} (hp : Hp G ((b3, row [v0, v1, v2, v3, v4, v5, .slice Az z.length cz, v7, .bool bare] 164) :: (Nz ++ H)) W) (oz : OwnS tInt 3 G z (.slice Az z.length cz) Nz) (e : Int) :
    Calls Tryz.prog 145 ⟨[.pointer (some ⟨b3, 0, none⟩), .int .i64 e]⟩ W (Ret G (fun G' H' v => v = .bool (zAdd z bare e).2.2 ∧ ∃ A c Nn, H' = (b3, row [v0, v1, v2, v3, v4, v5, .slice A (zAdd z bare e).1.length c, v7, .bool (zAdd z bare e).2.1] 164) :: (Nn ++ H) ∧ OwnS tInt 3 G' (zAdd z bare e).1 (.slice A (zAdd z bare e).1.length c) Nn)) := by
  obtain ⟨_, _, hv, hcz⟩ := oz.val
  cases hv
  refine enter Tryz.func145 rfl Tryz.ntmps145 (Nat.le_of_ble_eq_true rfl) hp (nx_seq (nx_region (nv v_assign (nx_nil (nx_then (nx_seq (nx_seq (nx_region (nv v_move (nv v_nilCheck (nv v_fieldAddr ?_)))))))))))
  refine nv v_load1_o (nv v_move ?_)
  refine nx_op rfl (op_callOS oz (by repeat (first | exact Pull.here | apply Pull.cons | apply Pull.app)) rfl rfl rfl (fun G1 W leo so hp => contains_Int hp so e) ?_)
  refine nx_nil (nx_then ?_)
  refine nx_cond rfl (fun c10 => ?_) (fun c10 => ?_)
  have hE : zAdd z bare e = (z, bare, true) := if_pos c10
  refine nx_seq (nx_region (nv v_assign (nx_nil (nx_then (nx_ret (nx_then_ret (nf (b := b3) (k := ?_))))))))
  rw [hE]
  exact nx_ret1 rfl (.tmp rfl) (fun W hp => ⟨_, G, _, rfl, Gh.le.refl _, ⟨rfl, _, _, Nz, rfl, oz⟩, Suf.hp (by repeat (first | exact Suf.refl | apply Suf.keep | apply Suf.cons | apply Suf.keepN | apply Suf.app)) hp⟩)
  refine nx_skip (nx_then (nx_seq (nx_seq (nx_region (nv v_move (nv v_nilCheck (nv v_fieldAddr (nv v_load1_o (nv v_len (nv v_geq (nx_nil ?_)))))))))))
  refine nx_then ?_
  refine nx_cond_dec rfl (fun c16 => ?_) (fun c16 => ?_)
  have hE : zAdd z bare e = (z, true, false) := by unfold zAdd; rw [if_neg (by rw [c10]; simp), if_pos (by omega)]
  refine nx_seq (nx_region (nv v_move (nv v_nilCheck (nv v_fieldAddr (st (k := nx_nil (nx_then (nx_seq (nx_region (nv v_assign (nx_nil ?_)))))))))))
  refine nx_then (nx_ret (nx_then_ret (nf (b := b3) (k := ?_))))
  rw [hE]
  exact nx_ret1 rfl (.tmp rfl) (fun W hp => ⟨_, G, _, rfl, Gh.le.refl _, ⟨rfl, _, _, Nz, rfl, oz⟩, Suf.hp (by repeat (first | exact Suf.refl | apply Suf.keep | apply Suf.cons | apply Suf.keepN | apply Suf.app)) hp⟩)
  have hE : zAdd z bare e = (z ++ [e], bare, true) := by unfold zAdd; rw [if_neg (by rw [c10]; simp), if_neg (by omega)]
  refine nx_skip (nx_then (nx_seq (nx_region (nv v_move (nv v_move (nv v_nilCheck (nv v_fieldAddr (nv v_load1_o (nv v_move ?_)))))))))
  refine nx_op rfl (op_buildSlice rfl rfl rfl rfl rfl (fun b26 => ?_))
  refine nx_op rfl (op_app (T := tInt) rfl rfl rfl oz (by repeat (first | exact Pull.here | apply Pull.cons | apply Pull.app)) (Src.row List.mem_cons_self (rows_Int [e]) rfl) (by simp; omega) (by simp [maxLen]; omega) (fun A27 c27 N27 o27 hc27 => ?_))
  refine nv v_nilCheck (nv v_fieldAddr (st (k := nx_nil (nx_then (nx_seq (nx_region (nv v_assign (nx_nil (nx_then (nx_ret (nf (b := b3) (k := ?_))))))))))))
  rw [hE]
  exact nx_ret1 rfl (.tmp rfl) (fun W hp => ⟨_, G, _, rfl, Gh.le.refl _, ⟨rfl, _, _, N27, rfl, o27⟩, Suf.hp (by repeat (first | exact Suf.refl | apply Suf.keep | apply Suf.cons | apply Suf.keepN | apply Suf.app)) hp⟩)
set_option maxRecDepth 20000 in
set_option maxHeartbeats 1000000 in
theorem onT_ok {G : Gh} {H : List (Nat × Obj)} {W : World} {b2 b7 g : Nat} {todo : List Port} {At : Option Addr} {ct : Nat} {Nt : List (Nat × Obj)} (hp : Hp G ((b7, row [.slice At todo.length ct] 31) :: (Nt ++ H)) W) (ot : OwnS tPort 71 G todo (.slice At todo.length ct) Nt) {N : NetD} (h : NetAt G g N) (hm : (b2, row [.pointer (some ⟨g, 0, none⟩)] 38) ∈ H) (hl : todo.length ≤ 100000) (e i : Int) :
    Calls Tryz.prog 142 ⟨[.int .i64 e, .int .i64 i, .pointer (some ⟨b2, 0, none⟩), .pointer (some ⟨b7, 0, none⟩)]⟩ W (Ret G (fun G' H' v => v = .tuple #[] ∧ ∃ A c Nn, H' = (b7, row [.slice A (onT N todo e i).length c] 31) :: (Nn ++ H) ∧ OwnS tPort 71 G' (onT N todo e i) (.slice A (onT N todo e i).length c) Nn)) := by
  refine enter Tryz.func142 rfl Tryz.ntmps142 (Nat.le_of_ble_eq_true rfl) hp (nx_seq (nx_region (nv (v_load1 rfl rfl (Rd.own (List.mem_cons_of_mem _ (List.mem_append_right _ hm)) rfl)) (nv v_move (nv v_move (nv (v_build rfl rfl rfl) ?_))))))
  refine nx_op rfl (op_callS rfl rfl rfl (fun W hp => next_ok hp h ⟨e, i⟩) ?_)
  refine nv v_move (nv (v_extract rfl rfl rfl) (nv (v_extract rfl rfl rfl) ?_))
  refine nx_op rfl (op_alloc rfl (fun b6 => ?_))
  refine st (k := nv v_assign (nx_nil (nx_then (nx_seq (nx_region (nv v_move (nx_nil (nx_then ?_))))))))
  refine nx_cond rfl (fun c16 => ?_) (fun c16 => ?_)
  obtain ⟨x, hx⟩ : ∃ x, getK N.next ⟨e, i⟩ = some x := by cases hq : getK N.next ⟨e, i⟩ with | none => rw [hq] at c16; simp at c16 | some a => exact ⟨a, rfl⟩
  have hE : onT N todo e i = todo ++ [x] := by unfold onT; rw [hx]
  rw [hx]
  simp only [Option.getD_some]
  refine nx_region (nv v_load1_o (nv v_load_o ?_))
  refine nx_op rfl (op_buildSlice rfl rfl rfl rfl rfl (fun b19 => ?_))
  refine nx_op rfl (op_app (T := tPort) rfl rfl rfl ot (by repeat (first | exact Pull.here | apply Pull.cons | apply Pull.app)) (Src.row List.mem_cons_self (rows_Port [x]) rfl) (by simp; omega) (by simp [maxLen]; omega) (fun A20 c20 N20 o20 hc20 => ?_))
  refine st (k := nx_nil ?_)
  rw [hE]
  refine nf (b := b7) (k := ?_)
  first
    | exact nx_end0 rfl (fun W hp => ⟨_, G, _, rfl, Gh.le.refl _, ⟨rfl, _, _, N20, rfl, o20⟩, Suf.hp (by repeat (first | exact Suf.refl | apply Suf.keep | apply Suf.cons | apply Suf.keepN | apply Suf.app)) hp⟩)
    | exact nx_end0 rfl (fun W hp => ⟨_, G, _, rfl, Gh.le.refl _, ⟨rfl, _, _, Nt, rfl, ot⟩, Suf.hp (by repeat (first | exact Suf.refl | apply Suf.keep | apply Suf.cons | apply Suf.keepN | apply Suf.app)) hp⟩)
  have hx : getK N.next ⟨e, i⟩ = none := by cases hq : getK N.next ⟨e, i⟩ with | none => rfl | some a => rw [hq] at c16; simp at c16
  have hE : onT N todo e i = todo := by unfold onT; rw [hx]
  refine nx_skip ?_
  rw [hE]
  refine nf (b := b7) (k := ?_)
  first
    | exact nx_end0 rfl (fun W hp => ⟨_, G, _, rfl, Gh.le.refl _, ⟨rfl, _, _, N20, rfl, o20⟩, Suf.hp (by repeat (first | exact Suf.refl | apply Suf.keep | apply Suf.cons | apply Suf.keepN | apply Suf.app)) hp⟩)
    | exact nx_end0 rfl (fun W hp => ⟨_, G, _, rfl, Gh.le.refl _, ⟨rfl, _, _, Nt, rfl, ot⟩, Suf.hp (by repeat (first | exact Suf.refl | apply Suf.keep | apply Suf.cons | apply Suf.keepN | apply Suf.app)) hp⟩)
structure FS where
  g : List Need
  z : List Int
  h : List Int
  bare : Bool
  seen : List (Port × Bool)
  todo : List Port
def FS.zone (S : FS) (e : Int) (f : List Port → List Port) : FS :=
  let q := zAdd S.z S.bare e
  { S with z := q.1, bare := q.2.1, todo := if q.2.2 then f S.todo else S.todo }
def flankStep (N : NetD) (steps : List Step) (needs : List Need) (S : FS) (y : Port) : FS :=
  if ownE steps y.elem || (getK S.seen y).getD false then S else
  let S1 : FS := { S with seen := putK S.seen y true }
  if decide (0 ≤ N.readsAt y) && !N.p.hard then (if S.h.contains (N.readsAt y) then S1 else { S1 with h := S.h ++ [N.readsAt y] })
  else if N.p.kind y.elem = 4 then { S1 with bare := true }
  else if N.p.kind y.elem = 2 then
    (if y.fin = 0 then S1.zone y.elem (fun t => onT N (onT N t y.elem 2) y.elem 1)
    else if needs.contains ⟨y.elem, y.fin⟩ || S.g.contains ⟨y.elem, y.fin⟩ then S1.zone y.elem (fun t => onT N t y.elem 0)
    else if S.g.contains ⟨y.elem, 3 - y.fin⟩ then S1 else { S1 with g := S.g ++ [⟨y.elem, 3 - y.fin⟩] })
  else match through N.p y.elem y.fin 0 with
    | none => S1
    | some o => S1.zone y.elem (fun t => onT N t y.elem o)
def flankF (N : NetD) (steps : List Step) (needs : List Need) : Nat → FS → FS
  | 0, S => S
  | f + 1, S => if S.todo.length = 0 then S else flankF N steps needs f (flankStep N steps needs { S with todo := S.todo.take (S.todo.length - 1) } ((S.todo[S.todo.length - 1]?).getD ⟨0, 0⟩))
def todo0 (N : NetD) (steps : List Step) : List Port := (sidePorts N steps).reverse.map fun x => (getK N.next x).getD ⟨0, 0⟩
def flankOf (N : NetD) (r : Road) : Road :=
  let S := flankF N r.steps r.needs 600 ⟨[], [], [], false, [], todo0 N r.steps⟩
  { r with guards := S.g, zone := S.z, holds := S.h, bare := S.bare }
end Go.Proofs.YtjckojnlapchoaaGreat
open Go Go.RowKit
namespace Go.Proofs.YtjckojnlapchoaaGreat
open Go.Proofs
section
variable {N : NetD} {steps : List Step} {needs : List Need} {S : FS} {y : Port}
theorem fs_seen (h : (ownE steps y.elem || (getK S.seen y).getD false) = true) : flankStep N steps needs S y = S := if_pos h
theorem fs_hold (h : (ownE steps y.elem || (getK S.seen y).getD false) = false) (h1 : (decide (0 ≤ N.readsAt y) && !N.p.hard) = true) : flankStep N steps needs S y = if S.h.contains (N.readsAt y) then { S with seen := putK S.seen y true } else { S with seen := putK S.seen y true, h := S.h ++ [N.readsAt y] } := by
  unfold flankStep; rw [if_neg (by rw [h]; simp)]; simp only; rw [if_pos h1]
theorem fs_gate (h : (ownE steps y.elem || (getK S.seen y).getD false) = false) (h1 : (decide (0 ≤ N.readsAt y) && !N.p.hard) = false) (h2 : N.p.kind y.elem = 4) : flankStep N steps needs S y = { S with seen := putK S.seen y true, bare := true } := by
  unfold flankStep; rw [if_neg (by rw [h]; simp)]; simp only; rw [if_neg (by rw [h1]; simp), if_pos h2]
theorem fs_toe (h : (ownE steps y.elem || (getK S.seen y).getD false) = false) (h1 : (decide (0 ≤ N.readsAt y) && !N.p.hard) = false) (h2 : ¬ N.p.kind y.elem = 4) (h3 : N.p.kind y.elem = 2) (h4 : y.fin = 0) :
    flankStep N steps needs S y = { S with seen := putK S.seen y true, z := (zAdd S.z S.bare y.elem).1, bare := (zAdd S.z S.bare y.elem).2.1, todo := if (zAdd S.z S.bare y.elem).2.2 then onT N (onT N S.todo y.elem 2) y.elem 1 else S.todo } := by
  unfold flankStep; rw [if_neg (by rw [h]; simp)]; simp only; rw [if_neg (by rw [h1]; simp), if_neg h2, if_pos h3, if_pos h4]; rfl
theorem fs_leg (h : (ownE steps y.elem || (getK S.seen y).getD false) = false) (h1 : (decide (0 ≤ N.readsAt y) && !N.p.hard) = false) (h2 : ¬ N.p.kind y.elem = 4) (h3 : N.p.kind y.elem = 2) (h4 : ¬ y.fin = 0) (h5 : (needs.contains ⟨y.elem, y.fin⟩ || S.g.contains ⟨y.elem, y.fin⟩) = true) :
    flankStep N steps needs S y = { S with seen := putK S.seen y true, z := (zAdd S.z S.bare y.elem).1, bare := (zAdd S.z S.bare y.elem).2.1, todo := if (zAdd S.z S.bare y.elem).2.2 then onT N S.todo y.elem 0 else S.todo } := by
  unfold flankStep; rw [if_neg (by rw [h]; simp)]; simp only; rw [if_neg (by rw [h1]; simp), if_neg h2, if_pos h3, if_neg h4, if_pos h5]; rfl
theorem fs_away (h : (ownE steps y.elem || (getK S.seen y).getD false) = false) (h1 : (decide (0 ≤ N.readsAt y) && !N.p.hard) = false) (h2 : ¬ N.p.kind y.elem = 4) (h3 : N.p.kind y.elem = 2) (h4 : ¬ y.fin = 0) (h5 : (needs.contains ⟨y.elem, y.fin⟩ || S.g.contains ⟨y.elem, y.fin⟩) = false) :
    flankStep N steps needs S y = if S.g.contains ⟨y.elem, 3 - y.fin⟩ then { S with seen := putK S.seen y true } else { S with seen := putK S.seen y true, g := S.g ++ [⟨y.elem, 3 - y.fin⟩] } := by
  unfold flankStep; rw [if_neg (by rw [h]; simp)]; simp only; rw [if_neg (by rw [h1]; simp), if_neg h2, if_pos h3, if_neg h4, if_neg (by rw [h5]; simp)]
theorem fs_none (h : (ownE steps y.elem || (getK S.seen y).getD false) = false) (h1 : (decide (0 ≤ N.readsAt y) && !N.p.hard) = false) (h2 : ¬ N.p.kind y.elem = 4) (h3 : ¬ N.p.kind y.elem = 2) (h4 : through N.p y.elem y.fin 0 = none) :
    flankStep N steps needs S y = { S with seen := putK S.seen y true } := by
  unfold flankStep; rw [if_neg (by rw [h]; simp)]; simp only; rw [if_neg (by rw [h1]; simp), if_neg h2, if_neg h3, h4]
theorem fs_some {o : Int} (h : (ownE steps y.elem || (getK S.seen y).getD false) = false) (h1 : (decide (0 ≤ N.readsAt y) && !N.p.hard) = false) (h2 : ¬ N.p.kind y.elem = 4) (h3 : ¬ N.p.kind y.elem = 2) (h4 : through N.p y.elem y.fin 0 = some o) :
    flankStep N steps needs S y = { S with seen := putK S.seen y true, z := (zAdd S.z S.bare y.elem).1, bare := (zAdd S.z S.bare y.elem).2.1, todo := if (zAdd S.z S.bare y.elem).2.2 then onT N S.todo y.elem o else S.todo } := by
  unfold flankStep; rw [if_neg (by rw [h]; simp)]; simp only; rw [if_neg (by rw [h1]; simp), if_neg h2, if_neg h3, h4]; rfl
end
structure PI (N : NetD) (f : Nat) (S : FS) : Prop where
  seenT : ∀ k v, getK S.seen k = some v → v = true
  nodup : (S.seen.map (·.1)).Nodup
  keysP : ∀ k, k ∈ S.seen.map (·.1) → N.p.isPort k = true
  todoP : ∀ k, k ∈ S.todo → N.p.isPort k = true
  room : S.seen.length ≤ 160
  fuel : 3 * (160 - S.seen.length) + S.todo.length + 1 ≤ f
  gl : S.g.length + f ≤ 700
  hl : S.h.length + f ≤ 700
  zl : S.z.length ≤ 12
theorem ports_few {p : Plan} (hp : p.elems.length ≤ 40) {l : List Port} (hn : l.Nodup) (h : ∀ k, k ∈ l → p.isPort k = true) : l.length ≤ 160 := by
  have hh : ∀ k, k ∈ l → 0 ≤ k.elem ∧ k.elem < 40 ∧ 0 ≤ k.fin ∧ k.fin < 4 := by
    intro k hk
    obtain ⟨q, h1, h2, h3, h4⟩ := Plan.isPort_elem (h k hk)
    omega
  have h1 : (l.map fun k => k.elem * 4 + k.fin).Nodup := by
    rw [List.nodup_iff_pairwise_ne, List.pairwise_map]
    refine (List.nodup_iff_pairwise_ne.1 hn).imp_of_mem fun {a b} ha hb hne he => hne ?_
    have a1 := hh a ha
    have b1 := hh b hb
    obtain ⟨a1', a2'⟩ := a
    obtain ⟨b1', b2'⟩ := b
    simp only at *
    have : a1' = b1' := by omega
    have : a2' = b2' := by omega
    subst_vars; rfl
  have := pigeon 160 _ h1 (by
    intro x hx
    obtain ⟨k, hk, rfl⟩ := List.mem_map.1 hx
    have := hh k hk
    omega)
  simpa using this
theorem putK_absent {κ ν : Type} [DecidableEq κ] {l : List (κ × ν)} {k : κ} {v : ν} (h : getK l k = none) : putK l k v = l ++ [(k, v)] := by
  refine findK_put_none l k v 0 ?_
  unfold getK at h
  cases hf : findK l k 0 with
  | none => rfl
  | some x => rw [hf] at h; cases h
theorem onT_port {N : NetD} (hN : N.Ok) {todo : List Port} (h : ∀ k, k ∈ todo → N.p.isPort k = true) (e i : Int) : ∀ k, k ∈ onT N todo e i → N.p.isPort k = true := by
  intro k hk
  unfold onT at hk
  cases hq : getK N.next ⟨e, i⟩ with
  | none => rw [hq] at hk; exact h k hk
  | some x =>
    rw [hq] at hk
    rcases List.mem_append.1 hk with hk | hk
    · exact h k hk
    · rw [List.mem_singleton.1 hk]; exact hN.next _ _ hq
theorem onT_length (N : NetD) (todo : List Port) (e i : Int) : (onT N todo e i).length ≤ todo.length + 1 := by
  unfold onT
  cases getK N.next ⟨e, i⟩ <;> simp
theorem zAdd_length {z : List Int} {bare : Bool} {e : Int} (h : z.length ≤ 12) : (zAdd z bare e).1.length ≤ 12 := by
  unfold zAdd
  split
  · exact h
  split
  · exact h
  · simp; omega
structure Nxt (N : NetD) (S S' : FS) (y : Port) : Prop where
  seen : S'.seen = putK S.seen y true
  todo : ∀ k, k ∈ S'.todo → N.p.isPort k = true
  tl : S'.todo.length ≤ S.todo.length + 2
  gl : S'.g.length ≤ S.g.length + 1
  hl : S'.h.length ≤ S.h.length + 1
  zl : S'.z.length ≤ 12
theorem PI.next {N : NetD} (hN : N.Ok) {f : Nat} {S S' : FS} {y : Port} (hP : PI N (f + 1) { S with todo := S.todo }) (ht : ∀ k, k ∈ S.todo → N.p.isPort k = true) (hy : N.p.isPort y = true) (hs : (getK S.seen y).getD false = false) (h : Nxt N { S with todo := S.todo.take (S.todo.length - 1) } S' y) (hne : S.todo.length ≠ 0) : PI N f S' := by
  obtain ⟨p1, p2, p3, p4, p5, p6, p7, p8, p9⟩ := hP
  obtain ⟨n1, n2, n3, n4, n5, n6⟩ := h
  dsimp only at p1 p2 p3 p4 p5 p6 p7 p8 p9 n1 n3 n4 n5
  have habs : getK S.seen y = none := by
    cases hq : getK S.seen y with
    | none => rfl
    | some v => have := p1 _ _ hq; subst this; rw [hq] at hs; cases hs
  have hput : S'.seen = S.seen ++ [(y, true)] := by rw [n1, putK_absent habs]
  have hnm : y ∉ S.seen.map (·.1) := getK_none.1 habs
  have hnd : (S'.seen.map (·.1)).Nodup := by
    rw [hput, List.map_append, List.nodup_append]
    refine ⟨p2, by simp, ?_⟩
    intro a ha b hb he
    simp at hb
    subst hb; subst he
    exact hnm ha
  have hkp : ∀ k, k ∈ S'.seen.map (·.1) → N.p.isPort k = true := by
    intro k hk
    rw [hput, List.map_append] at hk
    rcases List.mem_append.1 hk with hk | hk
    · exact p3 k hk
    · simp at hk; rw [hk]; exact hy
  have hlen : S'.seen.length = S.seen.length + 1 := by rw [hput]; simp
  have hroom : S'.seen.length ≤ 160 := by
    have := ports_few hN.small.elems hnd hkp
    simpa using this
  rw [List.length_take] at n3
  refine ⟨?_, hnd, hkp, n2, hroom, by omega, by omega, by omega, n6⟩
  intro k v hk
  rw [n1, getK_put] at hk
  split at hk
  · cases hk; rfl
  · exact p1 k v hk
theorem PI.step {N : NetD} (hN : N.Ok) {f : Nat} {S : FS} (steps : List Step) (needs : List Need) (hP : PI N (f + 1) S) (hne : S.todo.length ≠ 0) : PI N f (flankStep N steps needs { S with todo := S.todo.take (S.todo.length - 1) } ((S.todo[S.todo.length - 1]?).getD ⟨0, 0⟩)) := by
  obtain ⟨y, hy⟩ : ∃ y, S.todo[S.todo.length - 1]? = some y := ⟨_, List.getElem?_eq_getElem (by omega)⟩
  rw [hy]
  simp only [Option.getD_some]
  have hyp := hP.todoP y (List.mem_of_getElem? hy)
  have htk : ∀ k, k ∈ S.todo.take (S.todo.length - 1) → N.p.isPort k = true := fun k hk => hP.todoP k (List.mem_of_mem_take hk)
  have hzl := hP.zl
  have hP' : PI N (f + 1) { S with todo := S.todo } := hP
  cases h0 : (ownE steps y.elem || (getK S.seen y).getD false) with
  | true =>
    rw [fs_seen (S := { S with todo := S.todo.take (S.todo.length - 1) }) h0]
    obtain ⟨p1, p2, p3, p4, p5, p6, p7, p8, p9⟩ := hP
    exact ⟨p1, p2, p3, htk, p5, by dsimp only; rw [List.length_take]; omega, by dsimp only; omega, by dsimp only; omega, p9⟩
  | false =>
    have hs : (getK S.seen y).getD false = false := by rw [Bool.or_eq_false_iff] at h0; exact h0.2
    refine PI.next hN hP' hP.todoP hyp hs ?_ hne
    have zl := zAdd_length (z := S.z) (bare := S.bare) (e := y.elem) hzl
    cases h1 : (decide (0 ≤ N.readsAt y) && !N.p.hard) with
    | true =>
      rw [fs_hold (S := { S with todo := S.todo.take (S.todo.length - 1) }) h0 h1]
      split <;> exact ⟨rfl, htk, by simp, by simp, by simp, hzl⟩
    | false =>
      by_cases h2 : N.p.kind y.elem = 4
      · rw [fs_gate (S := { S with todo := S.todo.take (S.todo.length - 1) }) h0 h1 h2]
        exact ⟨rfl, htk, by simp, by simp, by simp, hzl⟩
      · by_cases h3 : N.p.kind y.elem = 2
        · by_cases h4 : y.fin = 0
          · rw [fs_toe (S := { S with todo := S.todo.take (S.todo.length - 1) }) h0 h1 h2 h3 h4]
            refine ⟨rfl, ?_, ?_, by simp, by simp, zl⟩
            · dsimp only; split
              · exact onT_port hN (onT_port hN htk _ _) _ _
              · exact htk
            · dsimp only
              split
              · have a1 := onT_length N (S.todo.take (S.todo.length - 1)) y.elem 2
                have a2 := onT_length N (onT N (S.todo.take (S.todo.length - 1)) y.elem 2) y.elem 1
                omega
              · omega
          · cases h5 : (needs.contains (⟨y.elem, y.fin⟩ : Need) || S.g.contains ⟨y.elem, y.fin⟩) with
            | true =>
              rw [fs_leg (S := { S with todo := S.todo.take (S.todo.length - 1) }) h0 h1 h2 h3 h4 h5]
              refine ⟨rfl, ?_, ?_, by simp, by simp, zl⟩
              · dsimp only; split
                · exact onT_port hN htk _ _
                · exact htk
              · dsimp only
                split
                · have a1 := onT_length N (S.todo.take (S.todo.length - 1)) y.elem 0
                  omega
                · omega
            | false =>
              rw [fs_away (S := { S with todo := S.todo.take (S.todo.length - 1) }) h0 h1 h2 h3 h4 h5]
              split <;> exact ⟨rfl, htk, by simp, by simp, by simp, hzl⟩
        · cases h4 : through N.p y.elem y.fin 0 with
          | none =>
            rw [fs_none (S := { S with todo := S.todo.take (S.todo.length - 1) }) h0 h1 h2 h3 h4]
            exact ⟨rfl, htk, by simp, by simp, by simp, hzl⟩
          | some o =>
            rw [fs_some (S := { S with todo := S.todo.take (S.todo.length - 1) }) h0 h1 h2 h3 h4]
            refine ⟨rfl, ?_, ?_, by simp, by simp, zl⟩
            · dsimp only; split
              · exact onT_port hN htk _ _
              · exact htk
            · dsimp only
              split
              · have a1 := onT_length N (S.todo.take (S.todo.length - 1)) y.elem o
                omega
              · omega
end Go.Proofs.YtjckojnlapchoaaGreat
open Go Go.RowKit
namespace Go.Proofs.YtjckojnlapchoaaGreat
open Go.Proofs
structure FT where
  f : Nat
  S : FS
  mo : Obj
  Ag : Option Addr
  cg : Nat
  Ng : List (Nat × Obj)
  Az : Option Addr
  cz : Nat
  Nz : List (Nat × Obj)
  Ah : Option Addr
  ch : Nat
  Nh : List (Nat × Obj)
  At : Option Addr
  ct : Nat
  Nt : List (Nat × Obj)
  G : Gh
structure FI (N : NetD) (r : Road) (R : FS) (A1 : Option Addr) (c1 : Nat) (A2 : Option Addr) (c2 : Nat) (G0 : Gh) (z : FT) : Prop where
  le : G0.le z.G
  og : OwnS tNeed 219 z.G z.S.g (.slice z.Ag z.S.g.length z.cg) z.Ng
  oz : OwnS tInt 3 z.G z.S.z (.slice z.Az z.S.z.length z.cz) z.Nz
  oh : OwnS tInt 3 z.G z.S.h (.slice z.Ah z.S.h.length z.ch) z.Nh
  ot : OwnS tPort 71 z.G z.S.todo (.slice z.At z.S.todo.length z.ct) z.Nt
  hm : MapObj Port.val bool_ z.mo z.S.seen
  hst : Sl tStep z.G A1 r.steps.length c1 r.steps
  hnd : Sl tNeed z.G A2 r.needs.length c2 r.needs
  spec : flankF N r.steps r.needs z.f z.S = R
  pi : PI N z.f z.S
theorem todo0_port {N : NetD} (hN : N.Ok) (steps : List Step) : ∀ k, k ∈ todo0 N steps → N.p.isPort k = true := by
  intro k hk
  simp only [todo0, List.mem_map, List.mem_reverse, sidePorts, List.mem_flatMap, sideOf, List.mem_filter] at hk
  obtain ⟨x, ⟨s, _, _, hx⟩, rfl⟩ := hk
  obtain ⟨v, hv⟩ := Option.isSome_iff_exists.1 hx
  rw [hv]
  exact hN.next _ _ hv
set_option maxRecDepth 20000 in
set_option maxHeartbeats 1000000 in
theorem flankOf_ok {G : Gh} {H : List (Nat × Obj)} {W : World} (hp : Hp G H W) {g : Nat} {N : NetD} (h : NetAt G g N) (hN : N.Ok) {A1 : Option Addr} {n1 c1 : Nat} {A2 : Option Addr} {n2 c2 : Nat} {A3 : Option Addr} {n3 c3 : Nat} {A4 : Option Addr} {n4 c4 : Nat} {A5 : Option Addr} {n5 c5 : Nat} {r : Road} (rt : Road.At G A1 n1 c1 A2 n2 c2 A3 n3 c3 A4 n4 c4 A5 n5 c5 r) (hin : ∀ s, s ∈ r.steps → s.In) (hs12 : r.steps.length ≤ 12) (hn12 : r.needs.length ≤ 100) : Calls Tryz.prog 87 ⟨[.pointer (some ⟨g, 0, none⟩), .agg ⟨[.int .i64 r.from_, .int .i64 r.to, .int .i64 r.fin, .slice A1 n1 c1, .slice A2 n2 c2, .slice A3 n3 c3, .slice A4 n4 c4, .slice A5 n5 c5, .bool r.bare]⟩]⟩ W (RetD G H (IsRoad (flankOf N r))) := by
  have hl1 := rt.h1.length
  have hl2 := rt.h2.length
  refine enter Tryz.func87 rfl Tryz.ntmps87 (Nat.le_of_ble_eq_true rfl) hp (nx_seq (nx_region ?_))
  refine nx_op rfl (op_box1 rfl rfl rfl (fun b2 => ?_))
  refine nx_op rfl (op_box rfl rfl (fun b3 => ?_))
  refine nx_op rfl (op_alloc rfl (fun b4 => ?_))
  refine nx_nil (nx_then (nx_scope (nx_seq (dr_begin 7 (.q 0 (.q 1 (.q 3 (.q 4 (.l 2 (.l 5 (.q 6 .done))))))) rfl (by kernel_rfl) (dr_q rfl rfl v_fieldAddr ic (dr_q rfl rfl v_load1_o ic (dr_q rfl rfl v_fieldAddr ic (dr_q rfl rfl v_load1_o ic (dr_l rfl rfl ?_)))))))))
  refine op_callD rfl rfl rfl (fun W hp => clone_Step hp rt.h1 (by omega)) (fun v21 G21 le21 ph21 => ?_)
  obtain ⟨A21, c21, rfl, s21⟩ := ph21
  refine dr_k (ic.le le21) (dr_l rfl rfl ?_)
  refine op_callD rfl rfl rfl (fun W hp => clone_Need hp (rt.h2.le le21) (by omega)) (fun v24 G24 le24 ph24 => ?_)
  obtain ⟨A24, c24, rfl, s24⟩ := ph24
  refine dr_k ((ic.le le21).le le24) (dr_q rfl rfl v_fieldAddr ((ic.le le21).le le24) (dr_end rfl (st (k := nv v_fieldAddr (st (k := ?_))))))
  refine nx_nil (nx_np ?_)
  refine nx_then (nx_seq (nx_region (nv v_fieldAddr (st (k := nv v_fieldAddr (st (k := nv v_fieldAddr (st (k := nv v_fieldAddr (st (k := nx_nil ?_)))))))))))
  refine nx_then (nx_seq (nx_region (nv v_load1_o ?_)))
  refine nx_op rfl (op_callD rfl rfl rfl (fun W hp => planOf_ok hp (h.le (Gh.le.trans le21 le24)) hN.small) (fun v32 G32 le32 ph32 => ?_))
  obtain ⟨B1, u1, w1, B2, u2, w2, B3, u3, w3, B4, u4, w4, rfl, pt⟩ := ph32
  refine nv (v_field1 rfl rfl rfl) (nv v_assign (nx_nil (nx_then (nx_seq (nx_region ?_)))))
  refine nx_op rfl (op_makeMap rfl (fun b34 => ?_))
  refine nv v_assign (nx_nil (nx_then (nx_seq (nx_region ?_))))
  refine nx_op rfl (op_alloc rfl (fun b7 => ?_))
  refine nx_nil (nx_then (nx_seq (nx_region (nv v_load1_o (nv v_load_o ?_)))))
  refine nx_op rfl (op_callD rfl rfl rfl (fun W hp => sidePorts_ok hp (h.le (Gh.le.trans le21 (Gh.le.trans le24 le32))) (s21.le (Gh.le.trans le24 le32)) (by omega) hin) (fun v37 G37 le37 ph37 => ?_))
  obtain ⟨A37, c37, rfl, s37⟩ := ph37
  have hst := s21.le (Gh.le.trans le24 (Gh.le.trans le32 le37))
  have hnd := s24.le (Gh.le.trans le32 le37)
  have hpl := sidePorts_length N r.steps
  refine nv v_assign (nx_nil (nx_then (nx_seq (nx_seq (nx_region (nv v_move (nv v_len (nv v_sub (nv v_assign (nx_nil (nx_then ?_)))))))))))
  refine nx_block ?_
  refine nx_loop_v (σ := Nat × List Port × Option Addr × Nat × List (Nat × Obj)) [0, 1, 2, 3, 4, 5, 6, 7, 8, 19, 20, 21, 22, 23, 24, 25, 26, 27, 28, 29, 30, 31, 32, 33, 34, 35, 36, 37, 38, 39, 40] (fun s => [(9, .int .i64 ((s.1 : Int) - 1))]) (fun _ => G37) (fun s => (b7, row [.slice s.2.2.1 s.2.1.length s.2.2.2.1] 31) :: (s.2.2.2.2 ++ _)) (fun s => s.1 ≤ (sidePorts N r.steps).length ∧ s.2.1 = (((sidePorts N r.steps).drop s.1).reverse).map (fun x => (getK N.next x).getD ⟨0, 0⟩) ∧ OwnS tPort 71 G37 s.2.1 (.slice s.2.2.1 s.2.1.length s.2.2.2.1) s.2.2.2.2) (fun s => s.1) ((sidePorts N r.steps).length, [], none, 0, []) (.cons rfl (.cons rfl (.cons rfl (.cons rfl (.cons rfl (.cons rfl (.cons rfl (.cons rfl (.cons rfl (.cons rfl (.cons rfl (.cons rfl (.cons rfl (.cons rfl (.cons rfl (.cons rfl (.cons rfl (.cons rfl (.cons rfl (.cons rfl (.cons rfl (.cons rfl (.cons rfl (.cons rfl (.cons rfl (.cons rfl (.cons rfl (.cons rfl (.cons rfl (.cons rfl (.cons rfl (.nil)))))))))))))))))))))))))))))))) ⟨rfl, trivial⟩ ⟨Nat.le_refl _, (by simp), .nil rfl⟩ rfl rfl ?_
  rintro ⟨k, todo, Ak, ck, Nk⟩ ⟨hk, htd, ok⟩ K next
  dsimp only at hk htd ok ⊢
  refine nx_seq (nx_seq (nx_region (nv v_move (nv v_geq (nx_nil (nx_then ?_))))))
  refine nx_cond_dec rfl (fun c42 => ?_) (fun c42 => ?_)
  obtain ⟨j, rfl⟩ : ∃ j, k = j + 1 := ⟨k - 1, by omega⟩
  obtain ⟨x, hx⟩ : ∃ x, (sidePorts N r.steps)[j]? = some x := ⟨_, List.getElem?_eq_getElem (by omega)⟩
  obtain ⟨xb, xo, xe, xk, xf0, xf1⟩ := get_Port s37 hx
  cases xe
  have hji : ((j + 1 : Nat) : Int) - 1 = (j : Int) := by omega
  have htl : todo.length ≤ (sidePorts N r.steps).length := by rw [htd]; simp
  refine nx_skip (nx_then (nx_seq (nx_block (nx_seq (dr_begin 12 (.q 0 (.q 1 (.q 2 (.q 3 (.q 4 (.b 5 9 (.q 6 (.q 7 (.q 8 (.l 9 (.l 10 (.q 11 .done)))))) (.l 5 (.q 6 (.q 7 (.q 8 (.l 10 (.q 11 .done)))))))))))) rfl (by kernel_rfl) (dr_q rfl rfl v_load1_o ic (dr_q rfl rfl v_move ic (dr_q rfl rfl v_move ic ?_))))))))
  refine dr_q rfl rfl (v_indexAddr_nat (k := j) rfl rfl (by show some (Value.int .i64 (((j + 1 : Nat) : Int) - 1)) = _; rw [hji]) (by omega)) ic ?_
  refine dr_q rfl rfl v_load_s ic ?_
  refine dr_b rfl rfl rfl rfl ?_ ?_
  refine op_callS rfl rfl rfl (fun W hp => next_ok hp (h.le (Gh.le.trans le21 (Gh.le.trans le24 (Gh.le.trans le32 le37)))) x) ?_
  refine dr_k ic (dr_q rfl rfl v_move ic (dr_q rfl rfl (v_extract rfl rfl rfl) ic (dr_q rfl rfl (v_extract rfl rfl rfl) ic (dr_l rfl rfl ?_))))
  refine op_alloc rfl (fun b10 => ?_)
  refine dr_k (ic.cons _) (dr_l rfl rfl ?_)
  refine op_sto rfl rfl rfl rfl rfl (by repeat (first | exact UpdS.here rfl | apply UpdS.cons | apply UpdS.app)) ?_
  refine dr_k (ic.cons _) (dr_q rfl rfl v_assign (ic.cons _) (dr_end rfl ?_))
  refine nx_nil (nx_np ?_)
  refine nx_then (nx_region (nv v_load1_o (nv v_load_o ?_)))
  refine nx_op rfl (op_buildSlice rfl rfl rfl rfl rfl (fun b56 => ?_))
  refine nx_op rfl (op_app (T := tPort) rfl rfl rfl ok (by repeat (first | exact Pull.here | apply Pull.cons | apply Pull.app)) (Src.row List.mem_cons_self (rows_Port [(getK N.next x).getD ⟨0, 0⟩]) rfl) (by simp; omega) (by simp [maxLen]; omega) (fun A57 c57 N57 o57 hc57 => ?_))
  refine st (k := nx_nil (nx_in _ (nx_then (nx_region (nv v_move (nv v_sub (nv v_assign (nx_nil (nx_then (nf (b := b7) (k := ?_)))))))))))
  refine nx_next (next (j, todo ++ [(getK N.next x).getD ⟨0, 0⟩], A57, c57, N57) ⟨(by dsimp only; omega), (by dsimp only; rw [drop_succ hx, htd]; simp), o57⟩ (by dsimp only; omega)) ?_ (by repeat (first | exact Suf.refl | apply Suf.keep | apply Suf.cons | apply Suf.keepN | apply Suf.app))
  exact ⟨(by show some (Value.int .i64 (((j + 1 : Nat) : Int) - 1 - 1)) = _; rw [hji]), (by repeat (first | exact trivial | refine ⟨rfl, ?_⟩))⟩
  refine op_alloc rfl (fun b10 => ?_)
  refine dr_k (ic.cons _) (dr_l rfl rfl ?_)
  refine op_callS rfl rfl rfl (fun W hp => next_ok hp (h.le (Gh.le.trans le21 (Gh.le.trans le24 (Gh.le.trans le32 le37)))) x) ?_
  refine dr_k (ic.cons _) (dr_q rfl rfl v_move (ic.cons _) (dr_q rfl rfl (v_extract rfl rfl rfl) (ic.cons _) (dr_q rfl rfl (v_extract rfl rfl rfl) (ic.cons _) (dr_l rfl rfl ?_))))
  refine op_sto rfl rfl rfl rfl rfl (by repeat (first | exact UpdS.here rfl | apply UpdS.cons | apply UpdS.app)) ?_
  refine dr_k (ic.cons _) (dr_q rfl rfl v_assign (ic.cons _) (dr_end rfl ?_))
  refine nx_nil (nx_np ?_)
  refine nx_then (nx_region (nv v_load1_o (nv v_load_o ?_)))
  refine nx_op rfl (op_buildSlice rfl rfl rfl rfl rfl (fun b56 => ?_))
  refine nx_op rfl (op_app (T := tPort) rfl rfl rfl ok (by repeat (first | exact Pull.here | apply Pull.cons | apply Pull.app)) (Src.row List.mem_cons_self (rows_Port [(getK N.next x).getD ⟨0, 0⟩]) rfl) (by simp; omega) (by simp [maxLen]; omega) (fun A57 c57 N57 o57 hc57 => ?_))
  refine st (k := nx_nil (nx_in _ (nx_then (nx_region (nv v_move (nv v_sub (nv v_assign (nx_nil (nx_then (nf (b := b7) (k := ?_)))))))))))
  refine nx_next (next (j, todo ++ [(getK N.next x).getD ⟨0, 0⟩], A57, c57, N57) ⟨(by dsimp only; omega), (by dsimp only; rw [drop_succ hx, htd]; simp), o57⟩ (by dsimp only; omega)) ?_ (by repeat (first | exact Suf.refl | apply Suf.keep | apply Suf.cons | apply Suf.keepN | apply Suf.app))
  exact ⟨(by show some (Value.int .i64 (((j + 1 : Nat) : Int) - 1 - 1)) = _; rw [hji]), (by repeat (first | exact trivial | refine ⟨rfl, ?_⟩))⟩
  obtain rfl : k = 0 := by omega
  rw [List.drop_zero] at htd
  have htd0 : todo = todo0 N r.steps := htd
  obtain ⟨R, hR⟩ : ∃ R, flankF N r.steps r.needs 600 ⟨[], [], [], false, [], todo0 N r.steps⟩ = R := ⟨_, rfl⟩
  refine nf (b := b34) (k := np (N := Nk) (k := nf (b := b7) (k := nf (b := b3) (k := nx_exit (nx_then_exit (nx_then_exit (nx_in_eq (nx_then (nx_seq (nx_region (nv v_makeFunc ?_)))))))))))
  refine nv v_assign (nx_nil (nx_then (nx_seq (nx_label (nx_then (nx_seq (nx_block ?_)))))))
  refine nx_loop_v (σ := FT) [0, 1, 2, 3, 4, 5, 6, 7, 8, 9, 12, 19, 20, 21, 22, 23, 24, 25, 26, 27, 28, 29, 30, 31, 32, 33, 34, 35, 36, 37, 38, 39, 40, 41, 42, 58] (fun _ => []) (fun z => z.G) (fun z => (b3, row [.int .i64 r.from_, .int .i64 r.to, .int .i64 r.fin, .slice A21 r.steps.length c21, .slice A24 r.needs.length c24, .slice z.Ag z.S.g.length z.cg, .slice z.Az z.S.z.length z.cz, .slice z.Ah z.S.h.length z.ch, .bool z.S.bare] 164) :: (z.Nz ++ ((b7, row [.slice z.At z.S.todo.length z.ct] 31) :: (z.Nt ++ ((b34, z.mo) :: (z.Ng ++ (z.Nh ++ _))))))) (fun z => FI N r R A21 c21 A24 c24 G z) (fun z => z.f) ⟨600, ⟨[], [], [], false, [], todo⟩, .map #[] 0, none, 0, [], none, 0, [], none, 0, [], Ak, ck, Nk, G37⟩ (.cons rfl (.cons rfl (.cons rfl (.cons rfl (.cons rfl (.cons rfl (.cons rfl (.cons rfl (.cons rfl (.cons rfl (.cons rfl (.cons rfl (.cons rfl (.cons rfl (.cons rfl (.cons rfl (.cons rfl (.cons rfl (.cons rfl (.cons rfl (.cons rfl (.cons rfl (.cons rfl (.cons rfl (.cons rfl (.cons rfl (.cons rfl (.cons rfl (.cons rfl (.cons rfl (.cons rfl (.cons rfl (.cons rfl (.cons rfl (.cons rfl (.cons rfl (.nil))))))))))))))))))))))))))))))))))))) trivial ⟨(Gh.le.trans le21 (Gh.le.trans le24 (Gh.le.trans le32 le37))), .nil rfl, .nil rfl, .nil rfl, ok, MapObj.new _ _ _, hst, hnd, (by rw [htd0]; exact hR), ⟨fun k v hk => (by cases hk), List.nodup_nil, fun k hk => absurd hk List.not_mem_nil, (by rw [htd0]; exact todo0_port hN _), Nat.zero_le _, (by show 3 * (160 - 0) + todo.length + 1 ≤ 600; have : todo.length ≤ 24 := (by rw [htd]; simp; omega); omega), (by show 0 + 600 ≤ 700; omega), (by show 0 + 600 ≤ 700; omega), Nat.zero_le _⟩⟩ rfl rfl ?_
  rintro ⟨f, ⟨Lg, Lz, Lh, bare, seen, td⟩, mo, Ag, cg, Ng, Az, cz, Nz, Ah, ch, Nh, At, ct, Nt, G1⟩ ⟨le1, og, oz, oh, ot, hm, hst, hnd, hI, hP⟩ K2 next2
  dsimp only at le1 og oz oh ot hm hst hnd hI hP ⊢
  have hfu := hP.fuel
  dsimp only at hfu
  obtain ⟨f, rfl⟩ : ∃ j, f = j + 1 := ⟨f - 1, by omega⟩
  simp only [flankF] at hI
  have hgl := hP.gl
  have hhl := hP.hl
  have hzl := hP.zl
  dsimp only at hgl hhl hzl
  refine nx_seq (nx_seq (nx_region (nv v_load1_o (nv v_len (nv v_gtr (nx_nil (nx_then ?_)))))))
  refine nx_cond_dec rfl (fun c61 => ?_) (fun c61 => ?_)
  rw [if_neg (by omega)] at hI
  have hP2 := hP.step hN r.steps r.needs (by dsimp only; omega)
  dsimp only at hP2
  obtain ⟨todo', htk⟩ : ∃ l, td.take (td.length - 1) = l := ⟨_, rfl⟩
  have hkl : todo'.length + 1 = td.length := by rw [← htk, List.length_take]; omega
  have hki : (todo'.length : Int) = (td.length : Int) - 1 := by omega
  obtain ⟨y, hy⟩ : ∃ y, td[todo'.length]? = some y := ⟨_, List.getElem?_eq_getElem (by omega)⟩
  have hk1 : td.length - 1 = todo'.length := by omega
  rw [htk, hk1, hy] at hI hP2
  simp only [Option.getD_some] at hI hP2
  rw [hk1] at htk
  obtain ⟨_, _, he0, hct⟩ := ot.val
  cases he0
  have ot1 := ot.take (k := todo'.length) (by omega)
  rw [htk] at ot1
  obtain ⟨yk, hyk, hyl, hyf1, hyf2⟩ := Plan.isPort_elem (hP.todoP y (List.mem_of_getElem? hy))
  obtain ⟨tb, tc, tcs, tr, tv, rfl, tR, tl, tf, tcs'⟩ := ot.get hy
  cases tv
  obtain rfl : tcs = y.cells := tR
  obtain ⟨Nt, hNt⟩ : ∃ l, [(tb, row tr 71)] = l := ⟨_, rfl⟩
  refine nx_skip (nx_then (nx_block (nx_seq (nx_region (nv v_load1_o (nv v_load1_o (nv v_len (nv v_sub ?_))))))))
  refine nv (v_indexAddr_nat (k := todo'.length) rfl rfl (by rw [hki]; rfl) (by omega)) ?_
  refine nv (v_load_o rfl rfl (by repeat (first | exact OwnAt.of (r := y.cells) tcs' (by rw [Nat.zero_add]; rfl) | apply OwnAt.cons | apply OwnAt.app))) ?_
  refine nx_op rfl (op_alloc rfl (fun b13 => ?_))
  refine st (k := nx_nil (nx_then (nx_seq (nx_region (nv v_load1_o (nv v_load1_o (nv v_len (nv v_sub ?_))))))))
  refine nv (v_slice_hi (h := todo'.length) rfl rfl (by rw [hki]; rfl) (by omega)) ?_
  refine st (k := nx_nil (nx_then (nx_seq (nx_seq (nx_region (nv v_load_o (nv v_fieldAddr (nv v_load1_o ?_))))))))
  have ot := ot1
  rw [hNt] at ot ⊢
  refine nx_op rfl (op_callD rfl rfl rfl (fun W hp => own_ok hp hst y.elem) (fun v76 G76 le76 ph76 => ?_))
  subst ph76
  have oz := oz.le le76
  have ot := ot.le le76
  have og := og.le le76
  have oh := oh.le le76
  have hst := hst.le le76
  have hnd := hnd.le le76
  refine nv v_move ?_
  refine nx_guard (t := 77) rfl (fun g77 => ?_) (fun g77 => ?_)
  refine nk (k := nk (k := nk (k := nv v_pick_t (nx_nil (nx_then (nx_cond_t rfl ?_))))))
  have h81 : (ownE r.steps y.elem || (getK seen y).getD false) = true := by simp_all
  rw [fs_seen (S := ⟨Lg, Lz, Lh, bare, seen, todo'⟩) h81] at hI hP2
  refine nx_exit (nx_then_exit (nx_in_eq (nx_then ?_)))
  try dsimp only at hI hP2
  refine np (N := Nh) (k := np (N := Ng) (k := nf (b := b34) (k := np (N := Nt) (k := nf (b := b7) (k := np (N := Nz) (k := nf (b := b3) (k := ?_)))))))
  exact nn (next2 ⟨f, ⟨_, _, _, _, _, _⟩, mo, Ag, cg, Ng, Az, cz, Nz, Ah, ch, Nh, _, _, Nt, _⟩ ⟨(Gh.le.trans le1 le76), og, oz, oh, ot, hm, hst, hnd, hI, hP2⟩ (by dsimp only; omega))
  refine nr v_move (nr v_load_o ?_)
  refine nr (v_lookup keyOk_port y false (.own (by repeat (first | exact Take.here | apply Take.cons | apply Take.app)) hm) rfl rfl rfl (by rfl)) ?_
  refine nv v_pick_f (nx_nil (nx_then ?_))
  refine nx_cond rfl (fun c81 => ?_) (fun c81 => ?_)
  have h81 : (ownE r.steps y.elem || (getK seen y).getD false) = true := by simp_all
  rw [fs_seen (S := ⟨Lg, Lz, Lh, bare, seen, todo'⟩) h81] at hI hP2
  refine nx_exit (nx_then_exit (nx_in_eq (nx_then ?_)))
  try dsimp only at hI hP2
  refine np (N := Nh) (k := np (N := Ng) (k := nf (b := b34) (k := np (N := Nt) (k := nf (b := b7) (k := np (N := Nz) (k := nf (b := b3) (k := ?_)))))))
  exact nn (next2 ⟨f, ⟨_, _, _, _, _, _⟩, mo, Ag, cg, Ng, Az, cz, Nz, Ah, ch, Nh, _, _, Nt, _⟩ ⟨(Gh.le.trans le1 le76), og, oz, oh, ot, hm, hst, hnd, hI, hP2⟩ (by dsimp only; omega))
  have h81 : (ownE r.steps y.elem || (getK seen y).getD false) = false := by simp_all
  refine nx_skip (nx_then (nx_seq (nx_region (nv v_move (nv v_load_o ?_)))))
  refine nx_op rfl (op_mapUpdate keyOk_port y true (venc := bool_) (by repeat (first | exact Take.here | apply Take.cons | apply Take.app)) hm rfl rfl rfl (fun mo hm => ?_))
  refine nx_nil (nx_then (nx_seq (nx_seq (nx_region (nv v_load1_o (nv v_load_o ?_))))))
  refine nx_op rfl (op_callS rfl rfl rfl (fun W hp => reads_ok hp (h.le (Gh.le.trans le1 le76)) y) ?_)
  refine nv v_assign (nx_nil (nx_then (nx_seq (nx_region (nv v_move (nv v_geq (nv v_move ?_)))))))
  refine nx_guard_dec (t := 89) rfl (fun g89 => ?_) (fun g89 => ?_)
  refine nr v_move (nr v_not (nv v_pick_t (nx_nil (nx_then ?_))))
  refine nx_cond rfl (fun c92 => ?_) (fun c92 => ?_)
  have h92 : (decide (0 ≤ N.readsAt y) && !N.p.hard) = true := by simp_all
  rw [fs_hold (S := ⟨Lg, Lz, Lh, bare, seen, todo'⟩) h81 h92] at hI hP2
  refine nx_seq (nx_seq (nx_region (nv v_fieldAddr (nv v_load1_o (nv v_move ?_)))))
  refine nx_op rfl (op_callOS oh (by repeat (first | exact Pull.here | apply Pull.cons | apply Pull.app)) rfl rfl rfl (fun G1 W leo so hp => contains_Int hp so (N.readsAt y)) ?_)
  refine nv v_not (nx_nil (nx_then ?_))
  refine nx_cond rfl (fun c97 => ?_) (fun c97 => ?_)
  rw [if_neg (by simpa using c97)] at hI hP2
  refine nx_region (nv v_fieldAddr (nv v_load1_o (nv v_move ?_)))
  refine nx_op rfl (op_buildSlice rfl rfl rfl rfl rfl (fun b101 => ?_))
  refine nx_op rfl (op_app (T := tInt) rfl rfl rfl oh (by repeat (first | exact Pull.here | apply Pull.cons | apply Pull.app)) (Src.row List.mem_cons_self (rows_Int [N.readsAt y]) rfl) (by simp; omega) (by simp [maxLen]; omega) (fun Ah ch Nh oh hch => ?_))
  refine nv v_fieldAddr (st (k := nx_nil (nx_then (nx_exit (nx_then_exit (nx_in_eq (nx_then ?_)))))))
  try dsimp only at hI hP2
  refine np (N := Nh) (k := np (N := Ng) (k := nf (b := b34) (k := np (N := Nt) (k := nf (b := b7) (k := np (N := Nz) (k := nf (b := b3) (k := ?_)))))))
  exact nn (next2 ⟨f, ⟨_, _, _, _, _, _⟩, mo, Ag, cg, Ng, Az, cz, Nz, Ah, ch, Nh, _, _, Nt, _⟩ ⟨(Gh.le.trans le1 le76), og, oz, oh, ot, hm, hst, hnd, hI, hP2⟩ (by dsimp only; omega))
  rw [if_pos (by simpa using c97)] at hI hP2
  refine nx_skip (nx_then (nx_exit (nx_then_exit (nx_in_eq (nx_then ?_)))))
  try dsimp only at hI hP2
  refine np (N := Nh) (k := np (N := Ng) (k := nf (b := b34) (k := np (N := Nt) (k := nf (b := b7) (k := np (N := Nz) (k := nf (b := b3) (k := ?_)))))))
  exact nn (next2 ⟨f, ⟨_, _, _, _, _, _⟩, mo, Ag, cg, Ng, Az, cz, Nz, Ah, ch, Nh, _, _, Nt, _⟩ ⟨(Gh.le.trans le1 le76), og, oz, oh, ot, hm, hst, hnd, hI, hP2⟩ (by dsimp only; omega))
  have h92 : (decide (0 ≤ N.readsAt y) && !N.p.hard) = false := by (simp_all; done)
  refine nx_skip (nx_then (nx_seq (nx_region (nv v_load1_o (nv v_fieldAddr (nv v_load1_o ?_))))))
  refine nx_op rfl (op_callS rfl rfl rfl (fun W hp => kind_ok hp (h.le (Gh.le.trans le1 le76)) y.elem) ?_)
  refine nx_nil (nx_then (nx_block (nx_seq (nx_region (nv v_eql (nv v_assign (nx_nil (nx_then ?_))))))))
  refine nx_cond_dec rfl (fun c128 => ?_) (fun c128 => ?_)
  rw [fs_gate (S := ⟨Lg, Lz, Lh, bare, seen, todo'⟩) h81 h92 c128] at hI hP2
  refine nx_region (nv v_fieldAddr (st (k := nx_nil (nx_in _ (nx_in _ (nx_then ?_))))))
  try dsimp only at hI hP2
  refine np (N := Nh) (k := np (N := Ng) (k := nf (b := b34) (k := np (N := Nt) (k := nf (b := b7) (k := np (N := Nz) (k := nf (b := b3) (k := ?_)))))))
  exact nn (next2 ⟨f, ⟨_, _, _, _, _, _⟩, mo, Ag, cg, Ng, Az, cz, Nz, Ah, ch, Nh, _, _, Nt, _⟩ ⟨(Gh.le.trans le1 le76), og, oz, oh, ot, hm, hst, hnd, hI, hP2⟩ (by dsimp only; omega))
  refine nx_seq (nx_region (nv v_eql (nv v_assign (nx_nil (nx_then ?_)))))
  refine nx_cond_dec rfl (fun c131 => ?_) (fun c131 => ?_)
  refine nx_seq (nx_seq (nx_region (nv v_fieldAddr (nv v_load1_o (nv v_eql (nx_nil (nx_then ?_)))))))
  refine nx_cond_dec rfl (fun c135 => ?_) (fun c135 => ?_)
  rw [fs_toe (S := ⟨Lg, Lz, Lh, bare, seen, todo'⟩) h81 h92 c128 c131 c135] at hI hP2
  refine nx_seq (nx_seq (nx_region (nv v_fieldAddr (nv v_load1_o (np (N := Nh) (k := np (N := Ng) (k := nf (b := b34) (k := np (N := Nt) (k := nf (b := b7) (k := np (N := Nz) (k := nf (b := b3) (k := ?_))))))))))))
  refine nx_op rfl (op_callR rfl rfl rfl (fun W hp => zone_ok hp oz y.elem) (fun v138 G138 H138 le138 ph138 => ?_))
  obtain ⟨rfl, Az, cz, Nz, rfl, oz⟩ := ph138
  have ot := ot.le le138
  have og := og.le le138
  have oh := oh.le le138
  have hst := hst.le le138
  have hnd := hnd.le le138
  refine nx_nil (nx_then ?_)
  refine nx_cond rfl (fun c138 => ?_) (fun c138 => ?_)
  rw [if_pos c138] at hI hP2
  refine np (N := Nt) (k := nf (b := b7) (k := nx_seq (nx_region (nv v_move (nv v_fieldAddr (nv v_load1_o ?_))))))
  refine nx_op rfl (op_callR rfl rfl rfl (fun W hp => onT_ok (b2 := b2) hp ot (h.le (Gh.le.trans le1 (Gh.le.trans le76 le138))) (by simp) (by omega) y.elem 2) (fun v142 G142 H142 le142 ph142 => ?_))
  obtain ⟨rfl, At, ct, Nt, rfl, ot⟩ := ph142
  have oz := oz.le le142
  have og := og.le le142
  have oh := oh.le le142
  have hst := hst.le le142
  have hnd := hnd.le le142
  have htl2 := onT_length N todo' y.elem 2
  refine nx_nil (nx_then (nx_region (nv v_move (nv v_fieldAddr (nv v_load1_o ?_)))))
  refine nx_op rfl (op_callR rfl rfl rfl (fun W hp => onT_ok (b2 := b2) hp ot (h.le (Gh.le.trans le1 (Gh.le.trans le76 (Gh.le.trans le138 le142)))) (by simp) (by omega) y.elem 1) (fun v146 G146 H146 le146 ph146 => ?_))
  obtain ⟨rfl, At, ct, Nt, rfl, ot⟩ := ph146
  have oz := oz.le le146
  have og := og.le le146
  have oh := oh.le le146
  have hst := hst.le le146
  have hnd := hnd.le le146
  refine nx_nil (nx_then (nx_exit (nx_then_exit (nx_in_ne rfl (nx_in_eq (nx_then ?_))))))
  try dsimp only at hI hP2
  refine np (N := Nh) (k := np (N := Ng) (k := nf (b := b34) (k := np (N := Nt) (k := nf (b := b7) (k := np (N := Nz) (k := nf (b := b3) (k := ?_)))))))
  exact nn (next2 ⟨f, ⟨_, _, _, _, _, _⟩, mo, Ag, cg, Ng, Az, cz, Nz, Ah, ch, Nh, _, _, Nt, _⟩ ⟨(Gh.le.trans le1 (Gh.le.trans le76 (Gh.le.trans le138 (Gh.le.trans le142 le146)))), og, oz, oh, ot, hm, hst, hnd, hI, hP2⟩ (by dsimp only; omega))
  rw [if_neg (by rw [c138]; simp)] at hI hP2
  refine nx_skip (nx_then (nx_exit (nx_then_exit (nx_in_ne rfl (nx_in_eq (nx_then ?_))))))
  try dsimp only at hI hP2
  refine np (N := Nh) (k := np (N := Ng) (k := nf (b := b34) (k := np (N := Nt) (k := nf (b := b7) (k := np (N := Nz) (k := nf (b := b3) (k := ?_)))))))
  exact nn (next2 ⟨f, ⟨_, _, _, _, _, _⟩, mo, Ag, cg, Ng, Az, cz, Nz, Ah, ch, Nh, _, _, Nt, _⟩ ⟨(Gh.le.trans le1 (Gh.le.trans le76 le138)), og, oz, oh, ot, hm, hst, hnd, hI, hP2⟩ (by dsimp only; omega))
  refine nx_skip (nx_then (nx_seq (nx_region (nv v_fieldAddr (nv v_load1_o (nv v_fieldAddr (nv v_load1_o (nv (v_build rfl rfl rfl) ?_))))))))
  refine nx_op rfl (op_alloc rfl (fun b15 => ?_))
  refine st (k := nx_nil (nx_then (nx_seq (nx_seq (nx_region (nv v_fieldAddr (nv v_load1_o (nv v_load_o ?_))))))))
  refine nx_op rfl (op_callS rfl rfl rfl (fun W hp => contains_Need hp hnd ⟨y.elem, y.fin⟩) ?_)
  refine nv v_move ?_
  refine nx_guard (t := 156) rfl (fun g156 => ?_) (fun g156 => ?_)
  refine nk (k := nk (k := nk (k := nk (k := nv v_pick_t (nx_nil (nx_then (nx_cond_t rfl ?_)))))))
  have h161 : (r.needs.contains ⟨y.elem, y.fin⟩ || Lg.contains ⟨y.elem, y.fin⟩) = true := by simp_all
  rw [fs_leg (S := ⟨Lg, Lz, Lh, bare, seen, todo'⟩) h81 h92 c128 c131 c135 h161] at hI hP2
  refine nx_seq (nx_seq (nx_region (nv v_fieldAddr (nv v_load1_o (np (N := Nh) (k := np (N := Ng) (k := nf (b := b34) (k := np (N := Nt) (k := nf (b := b7) (k := np (N := Nz) (k := nf (b := b3) (k := ?_))))))))))))
  refine nx_op rfl (op_callR rfl rfl rfl (fun W hp => zone_ok hp oz y.elem) (fun v164 G164 H164 le164 ph164 => ?_))
  obtain ⟨rfl, Az, cz, Nz, rfl, oz⟩ := ph164
  have ot := ot.le le164
  have og := og.le le164
  have oh := oh.le le164
  have hst := hst.le le164
  have hnd := hnd.le le164
  refine nx_nil (nx_then ?_)
  refine nx_cond rfl (fun c164 => ?_) (fun c164 => ?_)
  rw [if_pos c164] at hI hP2
  refine np (N := Nt) (k := nf (b := b7) (k := nx_region (nv v_move (nv v_fieldAddr (nv v_load1_o ?_)))))
  refine nx_op rfl (op_callR rfl rfl rfl (fun W hp => onT_ok (b2 := b2) hp ot (h.le (Gh.le.trans le1 (Gh.le.trans le76 le164))) (by simp) (by omega) y.elem 0) (fun v168 G168 H168 le168 ph168 => ?_))
  obtain ⟨rfl, At, ct, Nt, rfl, ot⟩ := ph168
  have oz := oz.le le168
  have og := og.le le168
  have oh := oh.le le168
  have hst := hst.le le168
  have hnd := hnd.le le168
  refine nx_nil (nx_then (nx_exit (nx_then_exit (nx_in_ne rfl (nx_in_eq (nx_then ?_))))))
  try dsimp only at hI hP2
  refine np (N := Nh) (k := np (N := Ng) (k := nf (b := b34) (k := np (N := Nt) (k := nf (b := b7) (k := np (N := Nz) (k := nf (b := b3) (k := ?_)))))))
  exact nn (next2 ⟨f, ⟨_, _, _, _, _, _⟩, mo, Ag, cg, Ng, Az, cz, Nz, Ah, ch, Nh, _, _, Nt, _⟩ ⟨(Gh.le.trans le1 (Gh.le.trans le76 (Gh.le.trans le164 le168))), og, oz, oh, ot, hm, hst, hnd, hI, hP2⟩ (by dsimp only; omega))
  rw [if_neg (by rw [c164]; simp)] at hI hP2
  refine nx_skip (nx_then (nx_exit (nx_then_exit (nx_in_ne rfl (nx_in_eq (nx_then ?_))))))
  try dsimp only at hI hP2
  refine np (N := Nh) (k := np (N := Ng) (k := nf (b := b34) (k := np (N := Nt) (k := nf (b := b7) (k := np (N := Nz) (k := nf (b := b3) (k := ?_)))))))
  exact nn (next2 ⟨f, ⟨_, _, _, _, _, _⟩, mo, Ag, cg, Ng, Az, cz, Nz, Ah, ch, Nh, _, _, Nt, _⟩ ⟨(Gh.le.trans le1 (Gh.le.trans le76 le164)), og, oz, oh, ot, hm, hst, hnd, hI, hP2⟩ (by dsimp only; omega))
  refine nr v_fieldAddr (nr v_load1_o (nr v_load_o ?_))
  refine nx_op_run rfl rfl rfl (op_callOS og (by repeat (first | exact Pull.here | apply Pull.cons | apply Pull.app)) rfl rfl rfl (fun G1 W leo so hp => contains_Need hp so ⟨y.elem, y.fin⟩) ?_)
  refine nv v_pick_f (nx_nil (nx_then ?_))
  refine nx_cond rfl (fun c161 => ?_) (fun c161 => ?_)
  have h161 : (r.needs.contains ⟨y.elem, y.fin⟩ || Lg.contains ⟨y.elem, y.fin⟩) = true := by simp_all
  rw [fs_leg (S := ⟨Lg, Lz, Lh, bare, seen, todo'⟩) h81 h92 c128 c131 c135 h161] at hI hP2
  refine nx_seq (nx_seq (nx_region (nv v_fieldAddr (nv v_load1_o (np (N := Nh) (k := np (N := Ng) (k := nf (b := b34) (k := np (N := Nt) (k := nf (b := b7) (k := np (N := Nz) (k := nf (b := b3) (k := ?_))))))))))))
  refine nx_op rfl (op_callR rfl rfl rfl (fun W hp => zone_ok hp oz y.elem) (fun v164 G164 H164 le164 ph164 => ?_))
  obtain ⟨rfl, Az, cz, Nz, rfl, oz⟩ := ph164
  have ot := ot.le le164
  have og := og.le le164
  have oh := oh.le le164
  have hst := hst.le le164
  have hnd := hnd.le le164
  refine nx_nil (nx_then ?_)
  refine nx_cond rfl (fun c164 => ?_) (fun c164 => ?_)
  rw [if_pos c164] at hI hP2
  refine np (N := Nt) (k := nf (b := b7) (k := nx_region (nv v_move (nv v_fieldAddr (nv v_load1_o ?_)))))
  refine nx_op rfl (op_callR rfl rfl rfl (fun W hp => onT_ok (b2 := b2) hp ot (h.le (Gh.le.trans le1 (Gh.le.trans le76 le164))) (by simp) (by omega) y.elem 0) (fun v168 G168 H168 le168 ph168 => ?_))
  obtain ⟨rfl, At, ct, Nt, rfl, ot⟩ := ph168
  have oz := oz.le le168
  have og := og.le le168
  have oh := oh.le le168
  have hst := hst.le le168
  have hnd := hnd.le le168
  refine nx_nil (nx_then (nx_exit (nx_then_exit (nx_in_ne rfl (nx_in_eq (nx_then ?_))))))
  try dsimp only at hI hP2
  refine np (N := Nh) (k := np (N := Ng) (k := nf (b := b34) (k := np (N := Nt) (k := nf (b := b7) (k := np (N := Nz) (k := nf (b := b3) (k := ?_)))))))
  exact nn (next2 ⟨f, ⟨_, _, _, _, _, _⟩, mo, Ag, cg, Ng, Az, cz, Nz, Ah, ch, Nh, _, _, Nt, _⟩ ⟨(Gh.le.trans le1 (Gh.le.trans le76 (Gh.le.trans le164 le168))), og, oz, oh, ot, hm, hst, hnd, hI, hP2⟩ (by dsimp only; omega))
  rw [if_neg (by rw [c164]; simp)] at hI hP2
  refine nx_skip (nx_then (nx_exit (nx_then_exit (nx_in_ne rfl (nx_in_eq (nx_then ?_))))))
  try dsimp only at hI hP2
  refine np (N := Nh) (k := np (N := Ng) (k := nf (b := b34) (k := np (N := Nt) (k := nf (b := b7) (k := np (N := Nz) (k := nf (b := b3) (k := ?_)))))))
  exact nn (next2 ⟨f, ⟨_, _, _, _, _, _⟩, mo, Ag, cg, Ng, Az, cz, Nz, Ah, ch, Nh, _, _, Nt, _⟩ ⟨(Gh.le.trans le1 (Gh.le.trans le76 le164)), og, oz, oh, ot, hm, hst, hnd, hI, hP2⟩ (by dsimp only; omega))
  have h161 : (r.needs.contains ⟨y.elem, y.fin⟩ || Lg.contains ⟨y.elem, y.fin⟩) = false := by simp_all
  rw [fs_away (S := ⟨Lg, Lz, Lh, bare, seen, todo'⟩) h81 h92 c128 c131 c135 h161] at hI hP2
  refine nx_skip (nx_then (nx_seq (nx_region (nv v_fieldAddr (nv v_load1_o (nv v_fieldAddr (nv v_load1_o (nv v_sub (nv (v_build rfl rfl rfl) ?_)))))))))
  refine nx_op rfl (op_alloc rfl (fun b16 => ?_))
  refine st (k := nx_nil (nx_then (nx_seq (nx_region (nv v_fieldAddr (nv v_load1_o (nv v_load_o ?_)))))))
  refine nx_op rfl (op_callOS og (by repeat (first | exact Pull.here | apply Pull.cons | apply Pull.app)) rfl rfl rfl (fun G1 W leo so hp => contains_Need hp so ⟨y.elem, 3 - y.fin⟩) ?_)
  refine nv v_not (nx_nil (nx_then ?_))
  refine nx_cond rfl (fun c179 => ?_) (fun c179 => ?_)
  rw [if_neg (by simpa using c179)] at hI hP2
  refine nx_region (nv v_fieldAddr (nv v_load1_o (nv v_load_o ?_)))
  refine nx_op rfl (op_buildSlice rfl rfl rfl rfl rfl (fun b183 => ?_))
  refine nx_op rfl (op_app (T := tNeed) rfl rfl rfl og (by repeat (first | exact Pull.here | apply Pull.cons | apply Pull.app)) (Src.row List.mem_cons_self (rows_Need [⟨y.elem, 3 - y.fin⟩]) rfl) (by simp; omega) (by simp [maxLen]; omega) (fun Ag cg Ng og hcg => ?_))
  refine nv v_fieldAddr (st (k := nx_nil (nx_in _ (nx_in _ (nx_then ?_)))))
  try dsimp only at hI hP2
  refine np (N := Nh) (k := np (N := Ng) (k := nf (b := b34) (k := np (N := Nt) (k := nf (b := b7) (k := np (N := Nz) (k := nf (b := b3) (k := ?_)))))))
  exact nn (next2 ⟨f, ⟨_, _, _, _, _, _⟩, mo, Ag, cg, Ng, Az, cz, Nz, Ah, ch, Nh, _, _, Nt, _⟩ ⟨(Gh.le.trans le1 le76), og, oz, oh, ot, hm, hst, hnd, hI, hP2⟩ (by dsimp only; omega))
  rw [if_pos (by simpa using c179)] at hI hP2
  refine nx_skip (nx_in _ (nx_in _ (nx_then ?_)))
  try dsimp only at hI hP2
  refine np (N := Nh) (k := np (N := Ng) (k := nf (b := b34) (k := np (N := Nt) (k := nf (b := b7) (k := np (N := Nz) (k := nf (b := b3) (k := ?_)))))))
  exact nn (next2 ⟨f, ⟨_, _, _, _, _, _⟩, mo, Ag, cg, Ng, Az, cz, Nz, Ah, ch, Nh, _, _, Nt, _⟩ ⟨(Gh.le.trans le1 le76), og, oz, oh, ot, hm, hst, hnd, hI, hP2⟩ (by dsimp only; omega))
  refine nx_seq (nx_region (nv v_load1_o (nv v_fieldAddr (nv v_load1_o (nv v_fieldAddr (nv v_load1_o ?_))))))
  refine nx_op rfl (op_callD rfl rfl rfl (fun W hp => from_ok hp (h.le (Gh.le.trans le1 le76)) y.elem y.fin 0) (fun v114 G114 le114 ph114 => ?_))
  subst ph114
  have oz := oz.le le114
  have ot := ot.le le114
  have og := og.le le114
  have oh := oh.le le114
  have hst := hst.le le114
  have hnd := hnd.le le114
  refine nv v_move (nv (v_extract rfl rfl rfl) (nv (v_extract rfl rfl rfl) (nv v_assign (nv v_assign (nx_nil (nx_then (nx_seq (nx_region (nv v_move (nv v_move ?_))))))))))
  refine nx_guard (t := 118) rfl (fun g118 => ?_) (fun g118 => ?_)
  obtain ⟨o, ho⟩ := Option.isSome_iff_exists.1 g118
  rw [fs_some (S := ⟨Lg, Lz, Lh, bare, seen, todo'⟩) h81 h92 c128 c131 ho] at hI hP2
  have hgo : (through N.p y.elem y.fin 0).getD 0 = o := by rw [ho]; rfl
  rw [hgo]
  refine nr v_fieldAddr (nr v_load1_o (np (N := Nh) (k := np (N := Ng) (k := nf (b := b34) (k := np (N := Nt) (k := nf (b := b7) (k := np (N := Nz) (k := nf (b := b3) (k := ?_)))))))))
  refine nx_op_run rfl rfl rfl (op_callR rfl rfl rfl (fun W hp => zone_ok hp oz y.elem) (fun v121 G121 H121 le121 ph121 => ?_))
  obtain ⟨rfl, Az, cz, Nz, rfl, oz⟩ := ph121
  have ot := ot.le le121
  have og := og.le le121
  have oh := oh.le le121
  have hst := hst.le le121
  have hnd := hnd.le le121
  refine nv v_pick_t (nx_nil (nx_then ?_))
  refine nx_cond rfl (fun c122 => ?_) (fun c122 => ?_)
  rw [if_pos c122] at hI hP2
  refine np (N := Nt) (k := nf (b := b7) (k := nx_region (nv v_move (nv v_fieldAddr (nv v_load1_o (nv v_move ?_))))))
  refine nx_op rfl (op_callR rfl rfl rfl (fun W hp => onT_ok (b2 := b2) hp ot (h.le (Gh.le.trans le1 (Gh.le.trans le76 (Gh.le.trans le114 le121)))) (by simp) (by omega) y.elem o) (fun v127 G127 H127 le127 ph127 => ?_))
  obtain ⟨rfl, At, ct, Nt, rfl, ot⟩ := ph127
  have oz := oz.le le127
  have og := og.le le127
  have oh := oh.le le127
  have hst := hst.le le127
  have hnd := hnd.le le127
  refine nx_nil (nx_in _ (nx_in _ (nx_then ?_)))
  try dsimp only at hI hP2
  refine np (N := Nh) (k := np (N := Ng) (k := nf (b := b34) (k := np (N := Nt) (k := nf (b := b7) (k := np (N := Nz) (k := nf (b := b3) (k := ?_)))))))
  exact nn (next2 ⟨f, ⟨_, _, _, _, _, _⟩, mo, Ag, cg, Ng, Az, cz, Nz, Ah, ch, Nh, _, _, Nt, _⟩ ⟨(Gh.le.trans le1 (Gh.le.trans le76 (Gh.le.trans le114 (Gh.le.trans le121 le127)))), og, oz, oh, ot, hm, hst, hnd, hI, hP2⟩ (by dsimp only; omega))
  try rw [if_neg (by rw [c122]; simp)] at hI hP2
  refine nx_skip (nx_in _ (nx_in _ (nx_then ?_)))
  try dsimp only at hI hP2
  refine np (N := Nh) (k := np (N := Ng) (k := nf (b := b34) (k := np (N := Nt) (k := nf (b := b7) (k := np (N := Nz) (k := nf (b := b3) (k := ?_)))))))
  exact nn (next2 ⟨f, ⟨_, _, _, _, _, _⟩, mo, Ag, cg, Ng, Az, cz, Nz, Ah, ch, Nh, _, _, Nt, _⟩ ⟨(Gh.le.trans le1 (Gh.le.trans le76 (Gh.le.trans le114 le121))), og, oz, oh, ot, hm, hst, hnd, hI, hP2⟩ (by dsimp only; omega))
  have ho : through N.p y.elem y.fin 0 = none := by cases hq : through N.p y.elem y.fin 0 with | none => rfl | some a => rw [hq] at g118; simp at g118
  rw [fs_none (S := ⟨Lg, Lz, Lh, bare, seen, todo'⟩) h81 h92 c128 c131 ho] at hI hP2
  refine nk (k := nk (k := np (N := Nh) (k := np (N := Ng) (k := nf (b := b34) (k := np (N := Nt) (k := nf (b := b7) (k := np (N := Nz) (k := nf (b := b3) (k := nk (k := nv v_pick_f (nx_nil ?_)))))))))))
  refine nx_then (nx_cond_f rfl ?_)
  try rw [if_neg (by rw [c122]; simp)] at hI hP2
  refine nx_skip (nx_in _ (nx_in _ (nx_then ?_)))
  try dsimp only at hI hP2
  refine np (N := Nh) (k := np (N := Ng) (k := nf (b := b34) (k := np (N := Nt) (k := nf (b := b7) (k := np (N := Nz) (k := nf (b := b3) (k := ?_)))))))
  exact nn (next2 ⟨f, ⟨_, _, _, _, _, _⟩, mo, Ag, cg, Ng, Az, cz, Nz, Ah, ch, Nh, _, _, Nt, _⟩ ⟨(Gh.le.trans le1 (Gh.le.trans le76 le114)), og, oz, oh, ot, hm, hst, hnd, hI, hP2⟩ (by dsimp only; omega))
  refine nk (k := nk (k := nv v_pick_f (nx_nil (nx_then (nx_cond_f rfl ?_)))))
  have h92 : (decide (0 ≤ N.readsAt y) && !N.p.hard) = false := by (rw [decide_eq_false (by omega)]; rfl)
  refine nx_skip (nx_then (nx_seq (nx_region (nv v_load1_o (nv v_fieldAddr (nv v_load1_o ?_))))))
  refine nx_op rfl (op_callS rfl rfl rfl (fun W hp => kind_ok hp (h.le (Gh.le.trans le1 le76)) y.elem) ?_)
  refine nx_nil (nx_then (nx_block (nx_seq (nx_region (nv v_eql (nv v_assign (nx_nil (nx_then ?_))))))))
  refine nx_cond_dec rfl (fun c128 => ?_) (fun c128 => ?_)
  rw [fs_gate (S := ⟨Lg, Lz, Lh, bare, seen, todo'⟩) h81 h92 c128] at hI hP2
  refine nx_region (nv v_fieldAddr (st (k := nx_nil (nx_in _ (nx_in _ (nx_then ?_))))))
  try dsimp only at hI hP2
  refine np (N := Nh) (k := np (N := Ng) (k := nf (b := b34) (k := np (N := Nt) (k := nf (b := b7) (k := np (N := Nz) (k := nf (b := b3) (k := ?_)))))))
  exact nn (next2 ⟨f, ⟨_, _, _, _, _, _⟩, mo, Ag, cg, Ng, Az, cz, Nz, Ah, ch, Nh, _, _, Nt, _⟩ ⟨(Gh.le.trans le1 le76), og, oz, oh, ot, hm, hst, hnd, hI, hP2⟩ (by dsimp only; omega))
  refine nx_seq (nx_region (nv v_eql (nv v_assign (nx_nil (nx_then ?_)))))
  refine nx_cond_dec rfl (fun c131 => ?_) (fun c131 => ?_)
  refine nx_seq (nx_seq (nx_region (nv v_fieldAddr (nv v_load1_o (nv v_eql (nx_nil (nx_then ?_)))))))
  refine nx_cond_dec rfl (fun c135 => ?_) (fun c135 => ?_)
  rw [fs_toe (S := ⟨Lg, Lz, Lh, bare, seen, todo'⟩) h81 h92 c128 c131 c135] at hI hP2
  refine nx_seq (nx_seq (nx_region (nv v_fieldAddr (nv v_load1_o (np (N := Nh) (k := np (N := Ng) (k := nf (b := b34) (k := np (N := Nt) (k := nf (b := b7) (k := np (N := Nz) (k := nf (b := b3) (k := ?_))))))))))))
  refine nx_op rfl (op_callR rfl rfl rfl (fun W hp => zone_ok hp oz y.elem) (fun v138 G138 H138 le138 ph138 => ?_))
  obtain ⟨rfl, Az, cz, Nz, rfl, oz⟩ := ph138
  have ot := ot.le le138
  have og := og.le le138
  have oh := oh.le le138
  have hst := hst.le le138
  have hnd := hnd.le le138
  refine nx_nil (nx_then ?_)
  refine nx_cond rfl (fun c138 => ?_) (fun c138 => ?_)
  rw [if_pos c138] at hI hP2
  refine np (N := Nt) (k := nf (b := b7) (k := nx_seq (nx_region (nv v_move (nv v_fieldAddr (nv v_load1_o ?_))))))
  refine nx_op rfl (op_callR rfl rfl rfl (fun W hp => onT_ok (b2 := b2) hp ot (h.le (Gh.le.trans le1 (Gh.le.trans le76 le138))) (by simp) (by omega) y.elem 2) (fun v142 G142 H142 le142 ph142 => ?_))
  obtain ⟨rfl, At, ct, Nt, rfl, ot⟩ := ph142
  have oz := oz.le le142
  have og := og.le le142
  have oh := oh.le le142
  have hst := hst.le le142
  have hnd := hnd.le le142
  have htl2 := onT_length N todo' y.elem 2
  refine nx_nil (nx_then (nx_region (nv v_move (nv v_fieldAddr (nv v_load1_o ?_)))))
  refine nx_op rfl (op_callR rfl rfl rfl (fun W hp => onT_ok (b2 := b2) hp ot (h.le (Gh.le.trans le1 (Gh.le.trans le76 (Gh.le.trans le138 le142)))) (by simp) (by omega) y.elem 1) (fun v146 G146 H146 le146 ph146 => ?_))
  obtain ⟨rfl, At, ct, Nt, rfl, ot⟩ := ph146
  have oz := oz.le le146
  have og := og.le le146
  have oh := oh.le le146
  have hst := hst.le le146
  have hnd := hnd.le le146
  refine nx_nil (nx_then (nx_exit (nx_then_exit (nx_in_ne rfl (nx_in_eq (nx_then ?_))))))
  try dsimp only at hI hP2
  refine np (N := Nh) (k := np (N := Ng) (k := nf (b := b34) (k := np (N := Nt) (k := nf (b := b7) (k := np (N := Nz) (k := nf (b := b3) (k := ?_)))))))
  exact nn (next2 ⟨f, ⟨_, _, _, _, _, _⟩, mo, Ag, cg, Ng, Az, cz, Nz, Ah, ch, Nh, _, _, Nt, _⟩ ⟨(Gh.le.trans le1 (Gh.le.trans le76 (Gh.le.trans le138 (Gh.le.trans le142 le146)))), og, oz, oh, ot, hm, hst, hnd, hI, hP2⟩ (by dsimp only; omega))
  rw [if_neg (by rw [c138]; simp)] at hI hP2
  refine nx_skip (nx_then (nx_exit (nx_then_exit (nx_in_ne rfl (nx_in_eq (nx_then ?_))))))
  try dsimp only at hI hP2
  refine np (N := Nh) (k := np (N := Ng) (k := nf (b := b34) (k := np (N := Nt) (k := nf (b := b7) (k := np (N := Nz) (k := nf (b := b3) (k := ?_)))))))
  exact nn (next2 ⟨f, ⟨_, _, _, _, _, _⟩, mo, Ag, cg, Ng, Az, cz, Nz, Ah, ch, Nh, _, _, Nt, _⟩ ⟨(Gh.le.trans le1 (Gh.le.trans le76 le138)), og, oz, oh, ot, hm, hst, hnd, hI, hP2⟩ (by dsimp only; omega))
  refine nx_skip (nx_then (nx_seq (nx_region (nv v_fieldAddr (nv v_load1_o (nv v_fieldAddr (nv v_load1_o (nv (v_build rfl rfl rfl) ?_))))))))
  refine nx_op rfl (op_alloc rfl (fun b15 => ?_))
  refine st (k := nx_nil (nx_then (nx_seq (nx_seq (nx_region (nv v_fieldAddr (nv v_load1_o (nv v_load_o ?_))))))))
  refine nx_op rfl (op_callS rfl rfl rfl (fun W hp => contains_Need hp hnd ⟨y.elem, y.fin⟩) ?_)
  refine nv v_move ?_
  refine nx_guard (t := 156) rfl (fun g156 => ?_) (fun g156 => ?_)
  refine nk (k := nk (k := nk (k := nk (k := nv v_pick_t (nx_nil (nx_then (nx_cond_t rfl ?_)))))))
  have h161 : (r.needs.contains ⟨y.elem, y.fin⟩ || Lg.contains ⟨y.elem, y.fin⟩) = true := by simp_all
  rw [fs_leg (S := ⟨Lg, Lz, Lh, bare, seen, todo'⟩) h81 h92 c128 c131 c135 h161] at hI hP2
  refine nx_seq (nx_seq (nx_region (nv v_fieldAddr (nv v_load1_o (np (N := Nh) (k := np (N := Ng) (k := nf (b := b34) (k := np (N := Nt) (k := nf (b := b7) (k := np (N := Nz) (k := nf (b := b3) (k := ?_))))))))))))
  refine nx_op rfl (op_callR rfl rfl rfl (fun W hp => zone_ok hp oz y.elem) (fun v164 G164 H164 le164 ph164 => ?_))
  obtain ⟨rfl, Az, cz, Nz, rfl, oz⟩ := ph164
  have ot := ot.le le164
  have og := og.le le164
  have oh := oh.le le164
  have hst := hst.le le164
  have hnd := hnd.le le164
  refine nx_nil (nx_then ?_)
  refine nx_cond rfl (fun c164 => ?_) (fun c164 => ?_)
  rw [if_pos c164] at hI hP2
  refine np (N := Nt) (k := nf (b := b7) (k := nx_region (nv v_move (nv v_fieldAddr (nv v_load1_o ?_)))))
  refine nx_op rfl (op_callR rfl rfl rfl (fun W hp => onT_ok (b2 := b2) hp ot (h.le (Gh.le.trans le1 (Gh.le.trans le76 le164))) (by simp) (by omega) y.elem 0) (fun v168 G168 H168 le168 ph168 => ?_))
  obtain ⟨rfl, At, ct, Nt, rfl, ot⟩ := ph168
  have oz := oz.le le168
  have og := og.le le168
  have oh := oh.le le168
  have hst := hst.le le168
  have hnd := hnd.le le168
  refine nx_nil (nx_then (nx_exit (nx_then_exit (nx_in_ne rfl (nx_in_eq (nx_then ?_))))))
  try dsimp only at hI hP2
  refine np (N := Nh) (k := np (N := Ng) (k := nf (b := b34) (k := np (N := Nt) (k := nf (b := b7) (k := np (N := Nz) (k := nf (b := b3) (k := ?_)))))))
  exact nn (next2 ⟨f, ⟨_, _, _, _, _, _⟩, mo, Ag, cg, Ng, Az, cz, Nz, Ah, ch, Nh, _, _, Nt, _⟩ ⟨(Gh.le.trans le1 (Gh.le.trans le76 (Gh.le.trans le164 le168))), og, oz, oh, ot, hm, hst, hnd, hI, hP2⟩ (by dsimp only; omega))
  rw [if_neg (by rw [c164]; simp)] at hI hP2
  refine nx_skip (nx_then (nx_exit (nx_then_exit (nx_in_ne rfl (nx_in_eq (nx_then ?_))))))
  try dsimp only at hI hP2
  refine np (N := Nh) (k := np (N := Ng) (k := nf (b := b34) (k := np (N := Nt) (k := nf (b := b7) (k := np (N := Nz) (k := nf (b := b3) (k := ?_)))))))
  exact nn (next2 ⟨f, ⟨_, _, _, _, _, _⟩, mo, Ag, cg, Ng, Az, cz, Nz, Ah, ch, Nh, _, _, Nt, _⟩ ⟨(Gh.le.trans le1 (Gh.le.trans le76 le164)), og, oz, oh, ot, hm, hst, hnd, hI, hP2⟩ (by dsimp only; omega))
  refine nr v_fieldAddr (nr v_load1_o (nr v_load_o ?_))
  refine nx_op_run rfl rfl rfl (op_callOS og (by repeat (first | exact Pull.here | apply Pull.cons | apply Pull.app)) rfl rfl rfl (fun G1 W leo so hp => contains_Need hp so ⟨y.elem, y.fin⟩) ?_)
  refine nv v_pick_f (nx_nil (nx_then ?_))
  refine nx_cond rfl (fun c161 => ?_) (fun c161 => ?_)
  have h161 : (r.needs.contains ⟨y.elem, y.fin⟩ || Lg.contains ⟨y.elem, y.fin⟩) = true := by simp_all
  rw [fs_leg (S := ⟨Lg, Lz, Lh, bare, seen, todo'⟩) h81 h92 c128 c131 c135 h161] at hI hP2
  refine nx_seq (nx_seq (nx_region (nv v_fieldAddr (nv v_load1_o (np (N := Nh) (k := np (N := Ng) (k := nf (b := b34) (k := np (N := Nt) (k := nf (b := b7) (k := np (N := Nz) (k := nf (b := b3) (k := ?_))))))))))))
  refine nx_op rfl (op_callR rfl rfl rfl (fun W hp => zone_ok hp oz y.elem) (fun v164 G164 H164 le164 ph164 => ?_))
  obtain ⟨rfl, Az, cz, Nz, rfl, oz⟩ := ph164
  have ot := ot.le le164
  have og := og.le le164
  have oh := oh.le le164
  have hst := hst.le le164
  have hnd := hnd.le le164
  refine nx_nil (nx_then ?_)
  refine nx_cond rfl (fun c164 => ?_) (fun c164 => ?_)
  rw [if_pos c164] at hI hP2
  refine np (N := Nt) (k := nf (b := b7) (k := nx_region (nv v_move (nv v_fieldAddr (nv v_load1_o ?_)))))
  refine nx_op rfl (op_callR rfl rfl rfl (fun W hp => onT_ok (b2 := b2) hp ot (h.le (Gh.le.trans le1 (Gh.le.trans le76 le164))) (by simp) (by omega) y.elem 0) (fun v168 G168 H168 le168 ph168 => ?_))
  obtain ⟨rfl, At, ct, Nt, rfl, ot⟩ := ph168
  have oz := oz.le le168
  have og := og.le le168
  have oh := oh.le le168
  have hst := hst.le le168
  have hnd := hnd.le le168
  refine nx_nil (nx_then (nx_exit (nx_then_exit (nx_in_ne rfl (nx_in_eq (nx_then ?_))))))
  try dsimp only at hI hP2
  refine np (N := Nh) (k := np (N := Ng) (k := nf (b := b34) (k := np (N := Nt) (k := nf (b := b7) (k := np (N := Nz) (k := nf (b := b3) (k := ?_)))))))
  exact nn (next2 ⟨f, ⟨_, _, _, _, _, _⟩, mo, Ag, cg, Ng, Az, cz, Nz, Ah, ch, Nh, _, _, Nt, _⟩ ⟨(Gh.le.trans le1 (Gh.le.trans le76 (Gh.le.trans le164 le168))), og, oz, oh, ot, hm, hst, hnd, hI, hP2⟩ (by dsimp only; omega))
  rw [if_neg (by rw [c164]; simp)] at hI hP2
  refine nx_skip (nx_then (nx_exit (nx_then_exit (nx_in_ne rfl (nx_in_eq (nx_then ?_))))))
  try dsimp only at hI hP2
  refine np (N := Nh) (k := np (N := Ng) (k := nf (b := b34) (k := np (N := Nt) (k := nf (b := b7) (k := np (N := Nz) (k := nf (b := b3) (k := ?_)))))))
  exact nn (next2 ⟨f, ⟨_, _, _, _, _, _⟩, mo, Ag, cg, Ng, Az, cz, Nz, Ah, ch, Nh, _, _, Nt, _⟩ ⟨(Gh.le.trans le1 (Gh.le.trans le76 le164)), og, oz, oh, ot, hm, hst, hnd, hI, hP2⟩ (by dsimp only; omega))
  have h161 : (r.needs.contains ⟨y.elem, y.fin⟩ || Lg.contains ⟨y.elem, y.fin⟩) = false := by simp_all
  rw [fs_away (S := ⟨Lg, Lz, Lh, bare, seen, todo'⟩) h81 h92 c128 c131 c135 h161] at hI hP2
  refine nx_skip (nx_then (nx_seq (nx_region (nv v_fieldAddr (nv v_load1_o (nv v_fieldAddr (nv v_load1_o (nv v_sub (nv (v_build rfl rfl rfl) ?_)))))))))
  refine nx_op rfl (op_alloc rfl (fun b16 => ?_))
  refine st (k := nx_nil (nx_then (nx_seq (nx_region (nv v_fieldAddr (nv v_load1_o (nv v_load_o ?_)))))))
  refine nx_op rfl (op_callOS og (by repeat (first | exact Pull.here | apply Pull.cons | apply Pull.app)) rfl rfl rfl (fun G1 W leo so hp => contains_Need hp so ⟨y.elem, 3 - y.fin⟩) ?_)
  refine nv v_not (nx_nil (nx_then ?_))
  refine nx_cond rfl (fun c179 => ?_) (fun c179 => ?_)
  rw [if_neg (by simpa using c179)] at hI hP2
  refine nx_region (nv v_fieldAddr (nv v_load1_o (nv v_load_o ?_)))
  refine nx_op rfl (op_buildSlice rfl rfl rfl rfl rfl (fun b183 => ?_))
  refine nx_op rfl (op_app (T := tNeed) rfl rfl rfl og (by repeat (first | exact Pull.here | apply Pull.cons | apply Pull.app)) (Src.row List.mem_cons_self (rows_Need [⟨y.elem, 3 - y.fin⟩]) rfl) (by simp; omega) (by simp [maxLen]; omega) (fun Ag cg Ng og hcg => ?_))
  refine nv v_fieldAddr (st (k := nx_nil (nx_in _ (nx_in _ (nx_then ?_)))))
  try dsimp only at hI hP2
  refine np (N := Nh) (k := np (N := Ng) (k := nf (b := b34) (k := np (N := Nt) (k := nf (b := b7) (k := np (N := Nz) (k := nf (b := b3) (k := ?_)))))))
  exact nn (next2 ⟨f, ⟨_, _, _, _, _, _⟩, mo, Ag, cg, Ng, Az, cz, Nz, Ah, ch, Nh, _, _, Nt, _⟩ ⟨(Gh.le.trans le1 le76), og, oz, oh, ot, hm, hst, hnd, hI, hP2⟩ (by dsimp only; omega))
  rw [if_pos (by simpa using c179)] at hI hP2
  refine nx_skip (nx_in _ (nx_in _ (nx_then ?_)))
  try dsimp only at hI hP2
  refine np (N := Nh) (k := np (N := Ng) (k := nf (b := b34) (k := np (N := Nt) (k := nf (b := b7) (k := np (N := Nz) (k := nf (b := b3) (k := ?_)))))))
  exact nn (next2 ⟨f, ⟨_, _, _, _, _, _⟩, mo, Ag, cg, Ng, Az, cz, Nz, Ah, ch, Nh, _, _, Nt, _⟩ ⟨(Gh.le.trans le1 le76), og, oz, oh, ot, hm, hst, hnd, hI, hP2⟩ (by dsimp only; omega))
  refine nx_seq (nx_region (nv v_load1_o (nv v_fieldAddr (nv v_load1_o (nv v_fieldAddr (nv v_load1_o ?_))))))
  refine nx_op rfl (op_callD rfl rfl rfl (fun W hp => from_ok hp (h.le (Gh.le.trans le1 le76)) y.elem y.fin 0) (fun v114 G114 le114 ph114 => ?_))
  subst ph114
  have oz := oz.le le114
  have ot := ot.le le114
  have og := og.le le114
  have oh := oh.le le114
  have hst := hst.le le114
  have hnd := hnd.le le114
  refine nv v_move (nv (v_extract rfl rfl rfl) (nv (v_extract rfl rfl rfl) (nv v_assign (nv v_assign (nx_nil (nx_then (nx_seq (nx_region (nv v_move (nv v_move ?_))))))))))
  refine nx_guard (t := 118) rfl (fun g118 => ?_) (fun g118 => ?_)
  obtain ⟨o, ho⟩ := Option.isSome_iff_exists.1 g118
  rw [fs_some (S := ⟨Lg, Lz, Lh, bare, seen, todo'⟩) h81 h92 c128 c131 ho] at hI hP2
  have hgo : (through N.p y.elem y.fin 0).getD 0 = o := by rw [ho]; rfl
  rw [hgo]
  refine nr v_fieldAddr (nr v_load1_o (np (N := Nh) (k := np (N := Ng) (k := nf (b := b34) (k := np (N := Nt) (k := nf (b := b7) (k := np (N := Nz) (k := nf (b := b3) (k := ?_)))))))))
  refine nx_op_run rfl rfl rfl (op_callR rfl rfl rfl (fun W hp => zone_ok hp oz y.elem) (fun v121 G121 H121 le121 ph121 => ?_))
  obtain ⟨rfl, Az, cz, Nz, rfl, oz⟩ := ph121
  have ot := ot.le le121
  have og := og.le le121
  have oh := oh.le le121
  have hst := hst.le le121
  have hnd := hnd.le le121
  refine nv v_pick_t (nx_nil (nx_then ?_))
  refine nx_cond rfl (fun c122 => ?_) (fun c122 => ?_)
  rw [if_pos c122] at hI hP2
  refine np (N := Nt) (k := nf (b := b7) (k := nx_region (nv v_move (nv v_fieldAddr (nv v_load1_o (nv v_move ?_))))))
  refine nx_op rfl (op_callR rfl rfl rfl (fun W hp => onT_ok (b2 := b2) hp ot (h.le (Gh.le.trans le1 (Gh.le.trans le76 (Gh.le.trans le114 le121)))) (by simp) (by omega) y.elem o) (fun v127 G127 H127 le127 ph127 => ?_))
  obtain ⟨rfl, At, ct, Nt, rfl, ot⟩ := ph127
  have oz := oz.le le127
  have og := og.le le127
  have oh := oh.le le127
  have hst := hst.le le127
  have hnd := hnd.le le127
  refine nx_nil (nx_in _ (nx_in _ (nx_then ?_)))
  try dsimp only at hI hP2
  refine np (N := Nh) (k := np (N := Ng) (k := nf (b := b34) (k := np (N := Nt) (k := nf (b := b7) (k := np (N := Nz) (k := nf (b := b3) (k := ?_)))))))
  exact nn (next2 ⟨f, ⟨_, _, _, _, _, _⟩, mo, Ag, cg, Ng, Az, cz, Nz, Ah, ch, Nh, _, _, Nt, _⟩ ⟨(Gh.le.trans le1 (Gh.le.trans le76 (Gh.le.trans le114 (Gh.le.trans le121 le127)))), og, oz, oh, ot, hm, hst, hnd, hI, hP2⟩ (by dsimp only; omega))
  try rw [if_neg (by rw [c122]; simp)] at hI hP2
  refine nx_skip (nx_in _ (nx_in _ (nx_then ?_)))
  try dsimp only at hI hP2
  refine np (N := Nh) (k := np (N := Ng) (k := nf (b := b34) (k := np (N := Nt) (k := nf (b := b7) (k := np (N := Nz) (k := nf (b := b3) (k := ?_)))))))
  exact nn (next2 ⟨f, ⟨_, _, _, _, _, _⟩, mo, Ag, cg, Ng, Az, cz, Nz, Ah, ch, Nh, _, _, Nt, _⟩ ⟨(Gh.le.trans le1 (Gh.le.trans le76 (Gh.le.trans le114 le121))), og, oz, oh, ot, hm, hst, hnd, hI, hP2⟩ (by dsimp only; omega))
  have ho : through N.p y.elem y.fin 0 = none := by cases hq : through N.p y.elem y.fin 0 with | none => rfl | some a => rw [hq] at g118; simp at g118
  rw [fs_none (S := ⟨Lg, Lz, Lh, bare, seen, todo'⟩) h81 h92 c128 c131 ho] at hI hP2
  refine nk (k := nk (k := np (N := Nh) (k := np (N := Ng) (k := nf (b := b34) (k := np (N := Nt) (k := nf (b := b7) (k := np (N := Nz) (k := nf (b := b3) (k := nk (k := nv v_pick_f (nx_nil ?_)))))))))))
  refine nx_then (nx_cond_f rfl ?_)
  try rw [if_neg (by rw [c122]; simp)] at hI hP2
  refine nx_skip (nx_in _ (nx_in _ (nx_then ?_)))
  try dsimp only at hI hP2
  refine np (N := Nh) (k := np (N := Ng) (k := nf (b := b34) (k := np (N := Nt) (k := nf (b := b7) (k := np (N := Nz) (k := nf (b := b3) (k := ?_)))))))
  exact nn (next2 ⟨f, ⟨_, _, _, _, _, _⟩, mo, Ag, cg, Ng, Az, cz, Nz, Ah, ch, Nh, _, _, Nt, _⟩ ⟨(Gh.le.trans le1 (Gh.le.trans le76 le114)), og, oz, oh, ot, hm, hst, hnd, hI, hP2⟩ (by dsimp only; omega))
  rw [if_pos (by omega)] at hI
  have hres : flankOf N r = { r with guards := Lg, zone := Lz, holds := Lh, bare := bare } := by unfold flankOf; rw [hR, ← hI]
  refine nx_exit (nx_then_exit (nx_then_exit (nx_in_eq (nx_then (nx_seq (nx_region (nv v_load_o (st (k := nx_nil (nx_then (nx_ret ?_)))))))))))
  refine nx_ng_ret ?_
  refine nx_still og (by repeat (first | exact Pull.here | apply Pull.cons | apply Pull.app)) (fun Ga Aa ca lea hva hsa => ?_)
  cases hva
  refine nx_still (oz.le lea) (by repeat (first | exact Pull.here | apply Pull.cons | apply Pull.app)) (fun Gb Ab cb leb hvb hsb => ?_)
  cases hvb
  refine nx_still (oh.le (Gh.le.trans lea leb)) (by repeat (first | exact Pull.here | apply Pull.cons | apply Pull.app)) (fun Gc Ac cc lec hvc hsc => ?_)
  cases hvc
  exact nx_ret1 rfl ro (Go.Proofs.YtjckojnlapchoaaGreat.rt (Gh.le.trans le1 (Gh.le.trans lea (Gh.le.trans leb lec))) (by rw [hres]; exact ⟨_, _, _, _, _, _, _, _, _, _, _, _, _, _, _, rfl, ⟨hst.le (Gh.le.trans lea (Gh.le.trans leb lec)), hnd.le (Gh.le.trans lea (Gh.le.trans leb lec)), hsa.le (Gh.le.trans leb lec), hsb.le lec, hsc⟩⟩))
end Go.Proofs.YtjckojnlapchoaaGreat
open Go Go.RowKit
namespace Go.Proofs.YtjckojnlapchoaaGreat
open Go.Proofs
structure Road.Fit (r : Road) : Prop where
  sl : r.steps.length ≤ 12
  nl : r.needs.length ≤ 12
  inn : ∀ s, s ∈ r.steps → s.In
theorem needsOf_length : ∀ (s : List Step) (q : List Int), (needsOf s q).length ≤ s.length
  | [], _ => by simp [needsOf]
  | s :: ss, [] => by simp [needsOf]
  | s :: ss, p :: ps => by
    have := needsOf_length ss ps
    unfold needsOf
    split <;> simp <;> omega
theorem mkRoad_fit {a b c : Int} {s : List Step} {q : List Int} (h : s.length ≤ 12) (hi : ∀ t, t ∈ s → t.In) : (mkRoad a b c s q).Fit := ⟨h, Nat.le_trans (needsOf_length s q) h, hi⟩
theorem outs_range {p : Plan} {e i : Int} : ∀ y, y ∈ outs p e i → 0 ≤ y.out ∧ y.out ≤ 3 := by
  intro y hy
  unfold outs at hy
  split at hy
  · cases hy
  rename_i h0
  split at hy
  · rename_i h1
    rw [List.mem_singleton.1 hy]
    simp only [h1, ends, if_true] at h0
    dsimp only; omega
  split at hy
  · rw [List.mem_singleton.1 hy]
    dsimp only [across]
    split; · omega
    split; · omega
    split <;> omega
  split at hy
  · split at hy
    · simp at hy; rcases hy with rfl | rfl <;> simp
    · rw [List.mem_singleton.1 hy]; simp
  · cases hy
theorem mem_set {α : Type} {l : List α} {k : Nat} {x y : α} (h : y ∈ l.set k x) : y = x ∨ y ∈ l := by
  rcases List.mem_or_eq_of_mem_set h with h | h
  · exact .inr h
  · exact .inl h
theorem dfs_fit {N : NetD} (hN : N.Ok) (b sig : Int) : ∀ (f : Nat) (s : List Step) (q : List Int) (w : List (List Way)) (out : List Road) (o : Option Port), (∀ t, t ∈ s → t.In) → s.length ≤ 12 → (∀ l, l ∈ w → ∀ y, y ∈ l → 0 ≤ y.out ∧ y.out ≤ 3) → (∀ x, o = some x → 0 ≤ x.fin ∧ x.fin ≤ 3) → (∀ r, r ∈ out → r.Fit) → ∀ r, r ∈ dfs N b sig f s q w out o → r.Fit
  | 0, s, q, w, out, o, _, _, _, _, h5, r, hr => h5 r hr
  | f + 1, s, q, w, out, some x, h1, h2, h3, h4, h5, r, hr => by
    have hx := h4 x rfl
    simp only [dfs] at hr
    split at hr
    · rename_i hm
      simp only [pathMay, Bool.and_eq_true, decide_eq_true_eq] at hm
      have h1' : ∀ t, t ∈ s ++ [(⟨x.elem, x.fin, -1⟩ : Step)] → t.In := by
        intro t ht
        rcases List.mem_append.1 ht with ht | ht
        · exact h1 t ht
        · rw [List.mem_singleton.1 ht]; exact ⟨by dsimp only; omega, by dsimp only; omega⟩
      have h2' : (s ++ [(⟨x.elem, x.fin, -1⟩ : Step)]).length ≤ 12 := by simp; omega
      refine dfs_fit hN b sig f _ _ _ _ none h1' h2' ?_ (fun _ h => by cases h) ?_ r hr
      · intro l hl
        rcases List.mem_append.1 hl with hl | hl
        · exact h3 l hl
        · rw [List.mem_singleton.1 hl]; exact outs_range
      · intro r hr
        split at hr
        · rcases List.mem_append.1 hr with hr | hr
          · exact h5 r hr
          · rw [List.mem_singleton.1 hr]; exact mkRoad_fit h2' h1'
        · exact h5 r hr
    · exact dfs_fit hN b sig f _ _ _ _ none h1 h2 h3 (fun _ h => by cases h) h5 r hr
  | f + 1, s, q, w, out, none, h1, h2, h3, h4, h5, r, hr => by
    simp only [dfs] at hr
    split at hr
    · exact h5 r hr
    split at hr
    · refine dfs_fit hN b sig f _ _ _ _ none (fun t ht => h1 t (List.mem_of_mem_take ht)) (by rw [List.length_take]; omega) (fun l hl => h3 l (List.mem_of_mem_take hl)) (fun _ h => by cases h) h5 r hr
    · rename_i y rr hw
      obtain ⟨l, hl⟩ : ∃ l, w[s.length - 1]? = some l := by
        cases hq : w[s.length - 1]? with
        | none => rw [hq] at hw; cases hw
        | some l => exact ⟨l, rfl⟩
      rw [hl] at hw
      simp only [Option.getD_some] at hw
      subst hw
      have hlm := List.mem_of_getElem? hl
      have hy := h3 _ hlm y List.mem_cons_self
      obtain ⟨c, hc⟩ : ∃ c, (s[s.length - 1]?).getD ⟨0, 0, 0⟩ = c := ⟨_, rfl⟩
      rw [hc] at hr
      have hcin : c.In := by
        cases hq : s[s.length - 1]? with
        | none => rw [hq] at hc; subst hc; exact ⟨by simp, by simp⟩
        | some z => rw [hq] at hc; simp at hc; subst hc; exact h1 _ (List.mem_of_getElem? hq)
      have h1' : ∀ t, t ∈ s.set (s.length - 1) ⟨c.elem, c.inn, y.out⟩ → t.In := by
        intro t ht
        rcases mem_set ht with rfl | ht
        · exact ⟨hcin.inn, by dsimp only; omega⟩
        · exact h1 t ht
      have h2' : (s.set (s.length - 1) ⟨c.elem, c.inn, y.out⟩).length ≤ 12 := by rw [List.length_set]; exact h2
      have h3' : ∀ l, l ∈ w.set (s.length - 1) rr → ∀ y, y ∈ l → 0 ≤ y.out ∧ y.out ≤ 3 := by
        intro l hl
        rcases mem_set hl with rfl | hl
        · exact fun z hz => h3 _ hlm z (List.mem_cons_of_mem _ hz)
        · exact h3 l hl
      split at hr
      · refine dfs_fit hN b sig f _ _ _ _ none h1' h2' h3' (fun _ h => by cases h) ?_ r hr
        intro r hr
        rcases List.mem_append.1 hr with hr | hr
        · exact h5 r hr
        · rw [List.mem_singleton.1 hr]; exact mkRoad_fit h2' h1'
      · split at hr
        · refine dfs_fit hN b sig f _ _ _ _ none h1' h2' h3' (fun _ h => by cases h) ?_ r hr
          intro r hr
          rcases List.mem_append.1 hr with hr | hr
          · exact h5 r hr
          · rw [List.mem_singleton.1 hr]; exact mkRoad_fit h2' h1'
        · rename_i z hz
          refine dfs_fit hN b sig f _ _ _ _ (some z) h1' h2' h3' ?_ h5 r hr
          intro x hx
          cases hx
          obtain ⟨_, _, _, i1, i2⟩ := Plan.isPort_elem (hN.next _ _ hz)
          omega
theorem roadsOf_fit {N : NetD} (hN : N.Ok) (sig : Int) : ∀ r, r ∈ roadsOf N sig → r.Fit := by
  intro r hr
  unfold roadsOf at hr
  cases ha : N.p.signalAt sig with
  | none => rw [ha] at hr; cases hr
  | some a =>
  rw [ha] at hr
  simp only at hr
  cases hx : getK N.next a with
  | none => rw [hx] at hr; cases hr
  | some x =>
    rw [hx] at hr
    refine dfs_fit hN a.elem sig 20480 [] [] [] [] (some x) (fun _ h => absurd h List.not_mem_nil) (Nat.zero_le _) (fun _ h => absurd h List.not_mem_nil) ?_ (fun _ h => absurd h List.not_mem_nil) r hr
    intro y hy
    cases hy
    obtain ⟨_, _, _, i1, i2⟩ := Plan.isPort_elem (hN.next _ _ hx)
    omega
theorem allF_fit {N : NetD} (hN : N.Ok) : ∀ (k i : Nat), ∀ r, r ∈ allF N i k → r.Fit
  | 0, _, r, hr => by cases hr
  | k + 1, i, r, hr => by
    unfold allF at hr
    rcases List.mem_append.1 hr with hr | hr
    · exact roadsOf_fit hN _ r hr
    · exact allF_fit hN k (i + 1) r hr
def noPlan : Plan := ⟨[], [], [], [], 0, 0, 0, 0, false⟩
def noChart : Chart := ⟨noPlan, []⟩
def chartErr (p : Plan) : Int := if ¬ planCheck p = 0 then planCheck p else if 64 < (roadsAll (netOf p)).length then 3 else 0
def chartOf (p : Plan) : Chart := ⟨p, (roadsAll (netOf p)).map (flankOf (netOf p))⟩
def IsChart (c : Chart) (e : Int) (G : Gh) (v : Value) : Prop := ∃ A1 n1 c1 A2 n2 c2 A3 n3 c3 A4 n4 c4 A5 n5 c5, v = .tuple #[.agg ⟨[.slice A1 n1 c1, .slice A2 n2 c2, .slice A3 n3 c3, .slice A4 n4 c4, .int .i64 c.plan.top, .int .i64 c.plan.brake, .int .i64 c.plan.margin, .int .i64 c.plan.throw_, .bool c.plan.hard, .slice A5 n5 c5]⟩, .int .i64 e] ∧ Chart.At G A1 n1 c1 A2 n2 c2 A3 n3 c3 A4 n4 c4 A5 n5 c5 c
theorem IsChart.none (e : Int) (G : Gh) : IsChart noChart e G (.tuple #[.agg ⟨[.slice none 0 0, .slice none 0 0, .slice none 0 0, .slice none 0 0, .int .i64 0, .int .i64 0, .int .i64 0, .int .i64 0, .bool false, .slice none 0 0]⟩, .int .i64 e]) :=
  ⟨Option.none, 0, 0, Option.none, 0, 0, Option.none, 0, 0, Option.none, 0, 0, Option.none, 0, 0, rfl, ⟨Sl.nil _ _, Sl.nil _ _, Sl.nil _ _, Sl.nil _ _, Sl.nil _ _⟩⟩
theorem setEs_of : ∀ {vs l : List Value} {o : Nat}, o + vs.length ≤ l.length → setEs l o vs = some (l.take o ++ vs ++ l.drop (o + vs.length))
  | [], l, o, h => by
    simp only [List.length_nil, Nat.add_zero, List.append_nil] at h ⊢
    unfold setEs
    rw [Nat.ble_eq_true_of_le h, List.take_append_drop]
  | v :: vs, l, o, h => by
    simp only [List.length_cons] at h ⊢
    have hlt : o < l.length := by omega
    unfold setEs
    rw [setE_of hlt]
    simp only
    rw [setEs_of (l := l.set o v) (o := o + 1) (by rw [List.length_set]; omega)]
    have h1 : (l.set o v).take (o + 1) = l.take o ++ [v] := by
      rw [List.take_add_one, List.getElem?_set_self hlt, List.take_set_of_le (Nat.le_refl o)]; rfl
    have h2 : (l.set o v).drop (o + 1 + vs.length) = l.drop (o + (vs.length + 1)) := by
      rw [List.drop_set_of_lt (by omega)]; congr 1; omega
    rw [h1, h2]
    simp
theorem chartErr_ok {p : Plan} (h : chartErr p = 0) : planCheck p = 0 ∧ ¬ 64 < (roadsAll (netOf p)).length := by
  unfold chartErr at h
  split at h
  · rename_i h1; exact absurd h h1
  split at h
  · cases h
  · rename_i h1 h2; exact ⟨Decidable.not_not.1 h1, h2⟩
theorem IsNet.split {p : Plan} {G : Gh} {v : Value} (h : IsNet p G v) : ∃ pv, v = .tuple #[pv, .int .i64 (planCheck p)] ∧ (planCheck p = 0 → ∃ g, pv = .pointer (some ⟨g, 0, none⟩) ∧ NetAt G g (netOf p)) := by
  rcases h with ⟨hne, h⟩ | ⟨hok, g, h, hnet⟩
  · exact ⟨_, h, fun h0 => absurd h0 hne⟩
  · exact ⟨_, by rw [h, hok], fun _ => ⟨g, rfl, hnet⟩⟩
def allErr (N : NetD) : Int := if 64 < (roadsAll N).length then 3 else 0
theorem all_split {N : NetD} {G' : Gh} {H H' : List (Nat × Obj)} {v : Value} (h : if 64 < (roadsAll N).length then H' = H ∧ v = .tuple #[.slice none 0 0, .int .i64 3] else ∃ A c Nn, H' = Nn ++ H ∧ v = .tuple #[.slice A (roadsAll N).length c, .int .i64 0] ∧ OwnS tRoad 164 G' (roadsAll N) (.slice A (roadsAll N).length c) Nn) :
    ∃ A n c Nn, H' = Nn ++ H ∧ v = .tuple #[.slice A n c, .int .i64 (allErr N)] ∧ (allErr N = 0 → n = (roadsAll N).length ∧ OwnS tRoad 164 G' (roadsAll N) (.slice A (roadsAll N).length c) Nn) := by
  unfold allErr
  split at h
  · rename_i hb
    obtain ⟨rfl, rfl⟩ := h
    exact ⟨none, 0, 0, [], rfl, by rw [if_pos hb], fun h0 => by rw [if_pos hb] at h0; cases h0⟩
  · rename_i hb
    obtain ⟨A, c, Nn, rfl, rfl, h⟩ := h
    exact ⟨A, _, c, Nn, rfl, by rw [if_neg hb], fun _ => ⟨rfl, h⟩⟩
theorem map_step {α : Type} {f : α → α} {L R : List α} {k : Nat} {x : α} (ht : L.take k = (R.take k).map f) (hd : L.drop k = R.drop k) (hx : L[k]? = some x) :
    (L.set k (f x)).take (k + 1) = (R.take (k + 1)).map f ∧ (L.set k (f x)).drop (k + 1) = R.drop (k + 1) := by
  have hR : R[k]? = some x := by
    have h1 : (L.drop k)[0]? = (R.drop k)[0]? := by rw [hd]
    rw [List.getElem?_drop, List.getElem?_drop, Nat.add_zero] at h1
    rw [← h1]; exact hx
  have hk := (List.getElem?_eq_some_iff.1 hx).1
  constructor
  · rw [List.take_add_one, List.getElem?_set_self hk, List.take_set_of_le (Nat.le_refl k), take_snoc hR, List.map_append, ht]; rfl
  · rw [List.drop_set_of_lt (by omega)]
    have h2 := congrArg List.tail hd
    simpa [List.tail_drop] using h2
set_option maxRecDepth 20000 in
set_option maxHeartbeats 1000000 in
theorem build_ok {G : Gh} {H : List (Nat × Obj)} {W : World} (hp : Hp G H W) {A1 : Option Addr} {n1 c1 : Nat} {A2 : Option Addr} {n2 c2 : Nat} {A3 : Option Addr} {n3 c3 : Nat} {A4 : Option Addr} {n4 c4 : Nat} {p : Plan} (at_ : Plan.At G A1 n1 c1 A2 n2 c2 A3 n3 c3 A4 n4 c4 p) : Calls Tryz.prog 42 ⟨[.agg ⟨[.slice A1 n1 c1, .slice A2 n2 c2, .slice A3 n3 c3, .slice A4 n4 c4, .int .i64 p.top, .int .i64 p.brake, .int .i64 p.margin, .int .i64 p.throw_, .bool p.hard]⟩]⟩ W (RetD G H (IsChart (if chartErr p = 0 then chartOf p else noChart) (chartErr p))) := by
  refine enter Tryz.func42 rfl Tryz.ntmps42 (Nat.le_of_ble_eq_true rfl) hp (nx_seq (nx_region ?_))
  refine nx_op rfl (op_box rfl rfl (fun b1 => ?_))
  refine nx_op rfl (op_alloc rfl (fun b2 => ?_))
  refine nv v_assign (nx_nil (nx_then (nx_seq (nx_region (nv v_load_o ?_)))))
  refine nx_op rfl (op_callD rfl rfl rfl (fun W hp => netNew_ok hp at_) (fun v10 G10 le10 ph10 => ?_))
  obtain ⟨pv, rfl, hpv⟩ := ph10.split
  refine nv v_move (nv (v_extract rfl rfl rfl) (nv (v_extract rfl rfl rfl) (nv v_assign (nv v_assign (nx_nil (nx_then (nx_seq (nx_seq (nx_region (nv v_move (nv v_neq ?_)))))))))))
  refine nx_nil (nx_then ?_)
  refine nx_cond_dec rfl (fun c14 => ?_) (fun c14 => ?_)
  have hE : chartErr p = planCheck p := if_pos c14
  have hE0 : ¬ chartErr p = 0 := by rw [hE]; exact c14
  refine nx_seq (nx_region (nv (v_build rfl rfl rfl) (nv v_move (st (k := nv v_assign (nx_nil (nx_then (nx_ret (nx_then_ret ?_)))))))))
  exact nx_ret2 rfl ro (.tmp rfl) (rt le10 (by rw [if_neg hE0, hE]; exact IsChart.none _ _))
  have hok : planCheck p = 0 := by omega
  obtain ⟨g, rfl, hnet⟩ := hpv hok
  have hN := netOf_ok hok
  refine nx_skip (nx_then (nx_seq (nx_region (nv v_move ?_))))
  refine nx_op rfl (op_callR rfl rfl rfl (fun W hp => roadAll_ok hp hnet hN) (fun v19 G19 H19 le19 ph19 => ?_))
  obtain ⟨A19, n19, c19, N19, rfl, rfl, h19⟩ := all_split ph19
  refine nv v_move (nv (v_extract rfl rfl rfl) (nv (v_extract rfl rfl rfl) (nv v_assign (nv v_assign (nx_nil (nx_then (nx_seq (nx_seq (nx_region (nv v_move (nv v_neq ?_)))))))))))
  refine nx_nil (nx_then ?_)
  refine nx_cond_dec rfl (fun c23 => ?_) (fun c23 => ?_)
  have hbig : 64 < (roadsAll (netOf p)).length := by unfold allErr at c23; split at c23; assumption; exact absurd rfl c23
  have hE : chartErr p = allErr (netOf p) := by unfold chartErr allErr; rw [if_neg (by omega)]
  have hE0 : ¬ chartErr p = 0 := by rw [hE]; exact c23
  refine nx_seq (nx_region (nv (v_build rfl rfl rfl) (nv v_move (st (k := nv v_assign (nx_nil (nx_then (nx_ret (nx_then_ret ?_)))))))))
  exact nx_ret2 rfl ro (.tmp rfl) (rt (Gh.le.trans le10 le19) (by rw [if_neg hE0, hE]; exact IsChart.none _ _))
  have ha : allErr (netOf p) = 0 := by omega
  obtain ⟨rfl, o19⟩ := h19 ha
  have hbig : ¬ 64 < (roadsAll (netOf p)).length := by intro h; unfold allErr at ha; rw [if_pos h] at ha; cases ha
  have hE : chartErr p = 0 := by unfold chartErr; rw [if_neg (by omega), if_neg hbig]
  refine nx_skip (nx_then (nx_seq (nx_seq (nx_region (nv v_move (nv v_len (nv v_move (nx_nil (nx_then (nx_block ?_))))))))))
  refine nx_loop_v (σ := Nat × List Road × List (Nat × Obj) × Gh) [0, 1, 2, 3, 4, 5, 6, 8, 9, 10, 11, 12, 13, 14, 17, 18, 19, 20, 21, 22, 23, 26, 27] (fun s => [(28, .int .i64 (s.1 : Int))]) (fun s => s.2.2.2) (fun s => s.2.2.1 ++ _) (fun s => G19.le s.2.2.2 ∧ s.1 ≤ (roadsAll (netOf p)).length ∧ s.2.1.length = (roadsAll (netOf p)).length ∧ OwnS tRoad 164 s.2.2.2 s.2.1 (.slice A19 (roadsAll (netOf p)).length c19) s.2.2.1 ∧ s.2.1.take s.1 = ((roadsAll (netOf p)).take s.1).map (flankOf (netOf p)) ∧ s.2.1.drop s.1 = (roadsAll (netOf p)).drop s.1) (fun s => (roadsAll (netOf p)).length - s.1) (0, roadsAll (netOf p), N19, G19) (.cons rfl (.cons rfl (.cons rfl (.cons rfl (.cons rfl (.cons rfl (.cons rfl (.cons rfl (.cons rfl (.cons rfl (.cons rfl (.cons rfl (.cons rfl (.cons rfl (.cons rfl (.cons rfl (.cons rfl (.cons rfl (.cons rfl (.cons rfl (.cons rfl (.cons rfl (.cons rfl (.nil)))))))))))))))))))))))) ⟨rfl, trivial⟩ ⟨Gh.le.refl _, Nat.zero_le _, rfl, o19, rfl, rfl⟩ rfl rfl ?_
  rintro ⟨k, L, Nk, G1⟩ ⟨le1, hk, hL, ok, ht, hd⟩ K next
  dsimp only at le1 hk hL ok ht hd ⊢
  refine nx_seq (nx_region (nv v_lss (nx_nil (nx_then (nx_seq ?_)))))
  refine nx_cond_dec rfl (fun c29 => ?_) (fun c29 => ?_)
  obtain ⟨x, rest, hdx, hx⟩ := drop_of_lt (xs := L) (k := k) (by omega)
  have hxr : x ∈ roadsAll (netOf p) := by
    have : x ∈ (roadsAll (netOf p)).drop k := by rw [← hd, hdx]; exact List.mem_cons_self
    exact List.mem_of_mem_drop this
  have hfit := allF_fit hN _ _ x hxr
  obtain ⟨tb, tc, tcs, tr, tv, rfl, tR, tl, tf, tcs'⟩ := ok.get hx
  obtain ⟨Z1, z1, y1, Z2, z2, y2, Z3, z3, y3, Z4, z4, y4, Z5, z5, y5, rfl, xat⟩ := tR
  simp only [Value.slice.injEq] at tv
  obtain ⟨rfl, _, rfl⟩ := tv
  have tf9 : k * 9 + 9 ≤ tr.length := by have : (k + 1) * 9 ≤ tr.length := tf; omega
  refine nx_skip (nx_then (nx_seq (nx_block (nx_seq (nx_region (nv v_move (nv v_assign (nx_nil (nx_then (nx_region (nv v_move ?_)))))))))))
  refine nv v_move (nv v_move (nv v_move (nv v_move (nv (v_indexAddr_nat (k := k) rfl rfl rfl (by omega)) ?_))))
  refine nv (v_load_o rfl rfl (by repeat (first | exact OwnAt.of (r := [_, _, _, _, _, _, _, _, _]) tcs' (by rw [Nat.zero_add]; rfl) | apply OwnAt.cons | apply OwnAt.app))) ?_
  refine nx_op rfl (op_callD rfl rfl rfl (fun W hp => flankOf_ok hp (hnet.le (Gh.le.trans le19 le1)) hN xat hfit.inn hfit.sl (by have := hfit.nl; omega)) (fun v38 G38 le38 ph38 => ?_))
  obtain ⟨Y1, a1, d1, Y2, a2, d2, Y3, a3, d3, Y4, a4, d4, Y5, a5, d5, rfl, yat⟩ := ph38
  refine nv (v_indexAddr_nat (k := k) rfl rfl rfl (by omega)) ?_
  refine nx_op rfl (op_sto rfl rfl rfl rfl rfl (UpdS.here (setEs_of (by simp; omega))) ?_)
  refine nx_nil (nx_in _ (nx_then (nx_region (nv v_add (nv v_move (nx_nil (nx_then ?_)))))))
  obtain ⟨hm1, hm2⟩ := map_step (f := flankOf (netOf p)) ht hd hx
  have ok' := (ok.le le38).set (k := k) (x := flankOf (netOf p) x) (by omega) ⟨Y1, a1, d1, Y2, a2, d2, Y3, a3, d3, Y4, a4, d4, Y5, a5, d5, rfl, yat⟩ (by rw [show k * tRoad.sz = 0 + k * 9 by rw [Nat.zero_add]; rfl, show (k + 1) * tRoad.sz = 0 + k * 9 + 9 by (show (k + 1) * 9 = _); omega])
  exact nn (next (k + 1, L.set k (flankOf (netOf p) x), _, G38) ⟨Gh.le.trans le1 le38, (by dsimp only; omega), (by dsimp only; rw [List.length_set]; exact hL), ok', hm1, hm2⟩ (by dsimp only; omega))
  obtain rfl : k = (roadsAll (netOf p)).length := by omega
  rw [List.take_of_length_le (by omega), List.take_of_length_le (Nat.le_refl _)] at ht
  subst ht
  refine nx_exit (nx_then_exit (nx_then_exit (nx_in_eq (nx_then (nx_seq (nx_region (nv v_move ?_)))))))
  refine nx_op rfl (op_callD rfl rfl rfl (fun W hp => planOf_ok hp (hnet.le (Gh.le.trans le19 le1)) hN.small) (fun v42 G42 le42 ph42 => ?_))
  obtain ⟨P1, p1, r1, P2, p2, r2, P3, p3, r3, P4, p4, r4, rfl, pt⟩ := ph42
  refine nv v_move (nv (v_build rfl rfl rfl) (st (k := nv v_assign (nx_nil (nx_then (nx_ret ?_))))))
  refine nx_still (ok.le le42) (by repeat (first | exact Pull.here | apply Pull.cons | apply Pull.app)) (fun G9 A9 d9 le9 hv9 hs9 => ?_)
  simp only [Value.slice.injEq] at hv9
  obtain ⟨rfl, hnl, rfl⟩ := hv9
  rw [← hnl] at hs9
  have pt9 := pt.le le9
  exact nx_ret2 rfl ro (.tmp rfl) (rt (Gh.le.trans (Gh.le.trans le10 (Gh.le.trans le19 (Gh.le.trans le1 le42))) le9) (by rw [if_pos hE, hE]; exact ⟨_, _, _, _, _, _, _, _, _, _, _, _, _, _, _, rfl, ⟨pt9.h1, pt9.h2, pt9.h3, pt9.h4, hs9⟩⟩))
end Go.Proofs.YtjckojnlapchoaaGreat
