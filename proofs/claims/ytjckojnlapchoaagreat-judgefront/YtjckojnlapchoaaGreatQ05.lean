/- Part 5 of a proof of a law over the program: NetNew, NetNew2, Body, Body2, Body3, Body4. Conditions: none beyond what each statement says. -/
import Derived.Test.YtjckojnlapchoaaGreatQ04
import Derived.Test.YtjckojnlapchoaaGreatQ01
set_option linter.unusedVariables false
set_option linter.unusedSimpArgs false
open Go Go.RowKit
namespace Go.Proofs.YtjckojnlapchoaaGreat
open Go.Proofs
set_option maxRecDepth 20000 in
set_option maxHeartbeats 1000000 in
theorem cloneO_Line {G : Gh} {H : List (Nat × Obj)} {W : World} (hp : Hp G H W) {A : Option Addr} {n c : Nat} {l : List Line} (hs : Sl tLine G A n c l) (hb : n * 40 ≤ 140737488355328) : Calls Tryz.prog 135 ⟨[.slice A n c]⟩ W (Ret G (fun G' H' v => ∃ N, H' = N ++ H ∧ OwnS tLine 137 G' l v N)) := by
  have hl := hs.length
  have hbb := Nat.le_trans hs.cap hs.room
  refine enter Tryz.func135 rfl Tryz.ntmps135 (Nat.le_of_ble_eq_true rfl) hp (nx_seq (nx_region (nv v_assign (nx_nil (nx_then (nx_seq (nx_seq (nx_region (nv v_move (nv v_eql_nil (nx_nil ?_)))))))))))
  refine nx_then ?_
  refine nx_cond rfl (fun c4 => ?_) (fun c4 => ?_)
  have hl0 : l = [] := by
    rcases Nat.eq_zero_or_pos c with h0 | h0
    · have := hs.cap; exact List.length_eq_zero_iff.1 (by omega)
    · obtain ⟨b, o, rfl, _⟩ := hs.at_ h0; simp at c4
  subst hl0
  refine nx_seq (nx_region (nv v_assign (nx_nil (nx_then (nx_ret (nx_then_ret ?_))))))
  exact nx_ret1 rfl (.tmp rfl) (fun W hp => ⟨_, G, [] ++ H, rfl, Gh.le.refl _, ⟨[], rfl, .nil rfl⟩, Suf.hp (by repeat (first | exact Suf.refl | apply Suf.keep | apply Suf.cons | apply Suf.keepN | apply Suf.app)) hp⟩)
  refine nx_skip (nx_then (nx_seq (nx_region ?_)))
  refine nx_op rfl (op_buildSlice0 rfl (fun b5 => ?_))
  refine nv v_move ?_
  refine nx_op rfl (op_append (T := tLine) rfl rfl rfl (OwnS.row0 (b := b5)) (N := [(b5, row [] _)]) (by exact Pull.here) (Src.still (hs.le (Gh.le.refl _))) (by simp; omega) (by simp [maxLen]; omega) (fun v7 N7 o7 => ?_))
  refine nv v_assign (nx_nil (nx_then (nx_ret ?_)))
  exact nx_ret1 rfl (.tmp rfl) (fun W hp => ⟨_, G, N7 ++ H, rfl, Gh.le.refl _, ⟨N7, rfl, o7⟩, Suf.hp (by repeat (first | exact Suf.refl | apply Suf.keep | apply Suf.cons | apply Suf.keepN | apply Suf.app)) hp⟩)
theorem set_self {α : Type} {l : List α} {k : Nat} {x : α} (h : l[k]? = some x) : l.set k x = l := by
  obtain ⟨h1, h2⟩ := List.getElem?_eq_some_iff.1 h
  subst h2; exact List.set_getElem_self h1
structure Plan.Small (p : Plan) : Prop where
  elems : p.elems.length ≤ 40
  joins : p.joins.length ≤ 80
  signals : p.signals.length ≤ 24
  lines : p.lines.length ≤ 4
  line : ∀ l, l ∈ p.lines → l.elems.length ≤ 40
def IsPlan (p : Plan) (G : Gh) (v : Value) : Prop := ∃ A1 n1 c1 A2 n2 c2 A3 n3 c3 A4 n4 c4, v = .agg ⟨[.slice A1 n1 c1, .slice A2 n2 c2, .slice A3 n3 c3, .slice A4 n4 c4, .int .i64 p.top, .int .i64 p.brake, .int .i64 p.margin, .int .i64 p.throw_, .bool p.hard]⟩ ∧ Plan.At G A1 n1 c1 A2 n2 c2 A3 n3 c3 A4 n4 c4 p
set_option maxRecDepth 20000 in
set_option maxHeartbeats 1000000 in
theorem twin_ok {G : Gh} {H : List (Nat × Obj)} {W : World} (hp : Hp G H W) {A1 : Option Addr} {n1 c1 : Nat} {A2 : Option Addr} {n2 c2 : Nat} {A3 : Option Addr} {n3 c3 : Nat} {A4 : Option Addr} {n4 c4 : Nat} {p : Plan} (at_ : Plan.At G A1 n1 c1 A2 n2 c2 A3 n3 c3 A4 n4 c4 p) (hsm : p.Small) : Calls Tryz.prog 79 ⟨[.agg ⟨[.slice A1 n1 c1, .slice A2 n2 c2, .slice A3 n3 c3, .slice A4 n4 c4, .int .i64 p.top, .int .i64 p.brake, .int .i64 p.margin, .int .i64 p.throw_, .bool p.hard]⟩]⟩ W (RetD G H (IsPlan p)) := by
  have l1 := at_.h1.length
  have l2 := at_.h2.length
  have l3 := at_.h3.length
  have l4 := at_.h4.length
  have r1 := Nat.le_trans at_.h1.cap at_.h1.room
  have r2 := Nat.le_trans at_.h2.cap at_.h2.room
  have r3 := Nat.le_trans at_.h3.cap at_.h3.room
  have r4 := Nat.le_trans at_.h4.cap at_.h4.room
  have s1 := hsm.elems
  have s2 := hsm.joins
  have s3 := hsm.signals
  have s4 := hsm.lines
  refine enter Tryz.func79 rfl Tryz.ntmps79 (Nat.le_of_ble_eq_true rfl) hp (nx_seq (nx_region ?_))
  refine nx_op rfl (op_box rfl rfl (fun b1 => ?_))
  refine nx_op rfl (op_alloc rfl (fun b2 => ?_))
  refine nx_nil (nx_then (nx_seq (dr_begin 10 (.q 0 (.q 1 (.q 3 (.q 4 (.q 6 (.q 7 (.l 2 (.q 9 (.l 5 (.l 8 .done)))))))))) rfl (by kernel_rfl) (dr_q rfl rfl v_fieldAddr ic (dr_q rfl rfl v_load1_o ic (dr_q rfl rfl v_fieldAddr ic (dr_q rfl rfl v_load1_o ic (dr_q rfl rfl v_fieldAddr ic (dr_q rfl rfl v_load1_o ic (dr_l rfl rfl ?_))))))))))
  refine op_callD rfl rfl rfl (fun W hp => clone_Elem hp at_.h1 (by omega)) (fun v6 G6 le6 ph6 => ?_)
  obtain ⟨B1, d1, rfl, q1⟩ := ph6
  refine dr_k (ic.le le6) (dr_q rfl rfl v_fieldAddr (ic.le le6) (dr_l rfl rfl ?_))
  refine op_callD rfl rfl rfl (fun W hp => clone_Join hp (at_.h2.le le6) (by omega)) (fun v9 G9 le9 ph9 => ?_)
  obtain ⟨B2, d2, rfl, q2⟩ := ph9
  refine dr_k ((ic.le le6).le le9) (dr_l rfl rfl ?_)
  refine op_callD rfl rfl rfl (fun W hp => clone_Signal hp (at_.h3.le (Gh.le.trans le6 le9)) (by omega)) (fun v12 G12 le12 ph12 => ?_)
  obtain ⟨B3, d3, rfl, q3⟩ := ph12
  refine dr_k (((ic.le le6).le le9).le le12) (dr_end rfl (st (k := nv v_fieldAddr (st (k := nv v_fieldAddr (st (k := ?_)))))))
  refine nx_nil (nx_np ?_)
  refine nx_then (nx_seq (nx_region (nv v_fieldAddr (nv v_load1_o ?_))))
  refine nx_op rfl (op_callR rfl rfl rfl (fun W hp => cloneO_Line hp (at_.h4.le (Gh.le.trans le6 (Gh.le.trans le9 le12))) (by omega)) (fun v18 G18 H18 le18 ph18 => ?_))
  obtain ⟨N18, rfl, o18⟩ := ph18
  obtain ⟨A18, d18, hv18, _⟩ := o18.val
  subst hv18
  refine nv v_fieldAddr (st (k := nx_nil (nx_then (nx_seq (nx_seq (nx_region (nv v_fieldAddr (nv v_load1_o (nv v_len (nv v_move (nx_nil ?_)))))))))))
  refine nx_then (nx_block ?_)
  refine nx_loop_v (σ := Nat × Gh × List (Nat × Obj)) [0, 1, 2, 4, 5, 6, 7, 8, 9, 10, 11, 12, 13, 14, 15, 16, 17, 18, 19, 20, 21, 22] (fun s => [(23, .int .i64 (s.1 : Int))]) (fun s => s.2.1) (fun s => s.2.2 ++ _) (fun s => G18.le s.2.1 ∧ OwnS tLine 137 s.2.1 p.lines (.slice A18 p.lines.length d18) s.2.2) (fun s => p.lines.length - s.1) (0, G18, N18) (.cons rfl (.cons rfl (.cons rfl (.cons rfl (.cons rfl (.cons rfl (.cons rfl (.cons rfl (.cons rfl (.cons rfl (.cons rfl (.cons rfl (.cons rfl (.cons rfl (.cons rfl (.cons rfl (.cons rfl (.cons rfl (.cons rfl (.cons rfl (.cons rfl (.cons rfl (.nil))))))))))))))))))))))) ⟨rfl, trivial⟩ ⟨Gh.le.refl _, o18⟩ rfl rfl ?_
  rintro ⟨k, G1, N⟩ ⟨le1, ho⟩ K next
  dsimp only at le1 ho ⊢
  refine nx_seq (nx_region (nv v_lss (nx_nil (nx_then (nx_seq ?_)))))
  refine nx_cond_dec rfl (fun c24 => ?_) (fun c24 => ?_)
  obtain ⟨x, rest, hd, hx⟩ := drop_of_lt (xs := p.lines) (k := k) (by omega)
  obtain ⟨b, c, cs, r, hv, rfl, hR, hlen, hfit, hcs⟩ := ho.get hx
  cases hv
  obtain ⟨Ax, nx, cx, rfl, xat⟩ := hR
  have hlx := hsm.line x (List.mem_of_getElem? hx)
  have hxl := xat.h1.length
  have e0 : 0 + k * 2 + 1 = k * tLine.sz + 1 := by rw [Nat.zero_add]; rfl
  refine nx_skip (nx_then (nx_seq (nx_block (nx_seq (nx_region (nv v_move (nv v_assign (nx_nil (nx_then (dr_begin 12 (.q 0 (.q 1 (.q 2 (.q 3 (.q 4 (.q 5 (.q 6 (.q 7 (.q 8 (.l 9 (.q 10 (.q 11 .done)))))))))))) rfl (by kernel_rfl) (dr_q rfl rfl v_fieldAddr ic ?_)))))))))))
  refine dr_q rfl rfl v_load1_o ic (dr_q rfl rfl v_move ic (dr_q rfl rfl v_fieldAddr ic (dr_q rfl rfl v_load1_o ic (dr_q rfl rfl v_move ic (dr_q rfl rfl (v_indexAddr_nat rfl rfl rfl (by omega)) ic (dr_q rfl rfl v_fieldAddr ic ?_))))))
  refine dr_q rfl rfl (v_load1_o rfl rfl (OwnAt.one (v := .slice Ax nx cx) (by rw [e0]; exact hcs 1 _ rfl))) ic ?_
  refine dr_l rfl rfl ?_
  refine op_callD rfl rfl rfl (fun W hp => clone_Int hp xat.h1 (by omega)) (fun v35 G35 le35 ph35 => ?_)
  obtain ⟨B35, d35, rfl, q35⟩ := ph35
  refine dr_k (ic.le le35) (dr_q rfl rfl (v_indexAddr_nat rfl rfl rfl (by omega)) (ic.le le35) (dr_q rfl rfl v_fieldAddr (ic.le le35) (dr_end rfl ?_)))
  refine nx_op rfl (op_sto rfl rfl rfl rfl rfl (UpdS.here (by rw [e0]; exact setEs_one (by simp only [tLine] at hfit ⊢; omega))) ?_)
  refine nx_nil (nx_np ?_)
  refine nx_in _ (nx_then (nx_region (nv v_add (nv v_move (nx_nil (nx_then ?_))))))
  have ho' := (ho.le le35).set1 (k := k) (j := 1) (x := x) (v := .slice B35 x.elems.length d35) (List.getElem?_eq_some_iff.1 hx).1 hcs hlen (by decide) hfit ⟨B35, _, d35, rfl, ⟨q35⟩⟩
  rw [set_self hx] at ho'
  exact nn (next (k + 1, G35, _) ⟨(Gh.le.trans le1 le35), ho'⟩ (by dsimp only; omega))
  refine nx_exit (nx_then_exit (nx_then_exit (nx_in_eq (nx_then (nx_seq (nx_region ?_))))))
  refine nx_still ho (by repeat (first | exact Pull.here | apply Pull.cons | apply Pull.app)) (fun G99 A9 d9 le99 hv9 hs9 => ?_)
  cases hv9
  refine nv v_load_o (st (k := nx_nil (nx_then (nx_ret ?_))))
  exact nx_ret1 rfl ro (rt ((Gh.le.trans le6 (Gh.le.trans le9 (Gh.le.trans le12 (Gh.le.trans le18 (Gh.le.trans le1 le99)))))) ⟨_, _, _, _, _, _, _, _, _, _, _, _, rfl, ⟨q1.le (le9.trans (le12.trans (le18.trans (le1.trans le99)))), q2.le (le12.trans (le18.trans (le1.trans le99))), q3.le (le18.trans (le1.trans le99)), hs9⟩⟩)
end Go.Proofs.YtjckojnlapchoaaGreat
open Go Go.RowKit
namespace Go.Proofs.YtjckojnlapchoaaGreat
open Go.Proofs
theorem pigeon : ∀ (n : Nat) (l : List Int), l.Nodup → (∀ x, x ∈ l → 0 ≤ x ∧ x < (n : Int)) → l.length ≤ n
  | 0, l, _, h => by
    cases l with
    | nil => simp
    | cons x l => have := h x List.mem_cons_self; omega
  | n + 1, l, hn, h => by
    have h1 := pigeon n (l.erase (n : Int)) (hn.erase _) (fun x hx => by
      have hm := List.mem_of_mem_erase hx
      have := h x hm
      have hne : x ≠ (n : Int) := by
        intro e; subst e
        exact absurd hx (hn.not_mem_erase)
      omega)
    have h2 := List.length_erase (a := (n : Int)) (l := l)
    split at h2 <;> omega
theorem getK_none {κ ν : Type} [DecidableEq κ] {l : List (κ × ν)} {k : κ} : getK l k = none ↔ k ∉ l.map (·.1) := by
  induction l with
  | nil => simp [getK, findK]
  | cons a l ih =>
    rw [getK_cons]
    split
    · rename_i h; subst h; simp
    · rename_i h; rw [ih]; simp [h]
theorem elF_small {p : Plan} : ∀ {l : List Int} {m m' : List (Int × Bool)}, elF p l m = some m' → (∀ x, x ∈ l → 0 ≤ x ∧ x < (p.elems.length : Int)) ∧ l.Nodup ∧ (∀ x, x ∈ l → (getK m x).getD false = false)
  | [], _, _, _ => by simp
  | e :: l, m, m', h => by
    unfold elF at h
    split at h
    · cases h
    · rename_i hb
      simp [elBad] at hb
      obtain ⟨h1, h2, h3⟩ := elF_small h
      refine ⟨?_, ?_, ?_⟩
      · intro x hx
        rcases List.mem_cons.1 hx with rfl | hx
        · omega
        · exact h1 x hx
      · rw [List.nodup_cons]
        refine ⟨fun hm => ?_, h2⟩
        have := h3 e hm
        rw [getK_put] at this; simp at this
      · intro x hx
        rcases List.mem_cons.1 hx with rfl | hx
        · simp [hb.2]
        · have := h3 x hx
          rw [getK_put] at this
          split at this
          · simp at this
          · exact this
theorem lineF_small {p : Plan} {nx : List (Port × Port)} : ∀ {ls : List Line} {m : List (Int × Bool)}, lineF p nx ls m = true → ∀ l, l ∈ ls → l.elems.length ≤ p.elems.length
  | [], _, _, l, hl => absurd hl List.not_mem_nil
  | x :: ls, m, h, l, hl => by
    unfold lineF at h
    split at h
    · cases h
    · split at h
      · cases h
      · rename_i m' hm
        split at h
        · obtain ⟨h1, h2, _⟩ := elF_small hm
          rcases List.mem_cons.1 hl with rfl | hl
          · exact pigeon _ _ h2 h1
          · exact lineF_small h l hl
        · cases h
theorem Plan.small {p : Plan} (h : planCheck p = 0) : p.Small := by
  obtain ⟨h1, _, _, nx, _, _, h5, _⟩ := planCheck_ok h
  simp only [tooMuch, Bool.or_eq_false_iff, decide_eq_false_iff_not] at h1
  exact ⟨by omega, by omega, by omega, by omega, fun l hl => by have := lineF_small h5 l hl; omega⟩
def nextF : List Join → List (Port × Port) → List (Port × Port)
  | [], m => m
  | j :: r, m => nextF r (putK (putK m j.a j.b) j.b j.a)
def readsF : List Signal → Nat → List (Port × Int) → List (Port × Int)
  | [], _, m => m
  | s :: r, i, m => readsF r (i + 1) (putK m s.at_ (i : Int))
def leadStart (nx : List (Port × Port)) : List Int → Int
  | a :: b :: _ => if (getK nx ⟨a, 0⟩).isSome && decide ((look nx a 0).elem = b) then 1 else 0
  | _ => 0
def lineGo (nx : List (Port × Port)) (i : Int) : List Int → Nat → Int → List (Int × (Int × Int)) → List (Int × Int) → List (Int × (Int × Int)) × List (Int × Int)
  | [], _, _, L, D => (L, D)
  | e :: r, k, inn, L, D => lineGo nx i r (k + 1) (look nx e (1 - inn)).fin (putK L e (i, (k : Int))) (putK D e inn)
def linesGo (nx : List (Port × Port)) : List Line → Nat → List (Int × (Int × Int)) → List (Int × Int) → List (Int × (Int × Int)) × List (Int × Int)
  | [], _, L, D => (L, D)
  | l :: r, i, L, D => let q := lineGo nx i l.elems 0 (leadStart nx l.elems) L D; linesGo nx r (i + 1) q.1 q.2
def netOf (p : Plan) : NetD :=
  let nx := nextF p.joins []
  let q := linesGo nx p.lines 0 [] []
  ⟨p, nx, readsF p.signals 0 [], q.1, q.2⟩
theorem joinF_next {p : Plan} : ∀ {l : List Join} {m m' : List (Port × Port)}, joinF p l m = some m' → nextF l m = m'
  | [], _, _, h => by cases h; rfl
  | j :: l, m, m', h => by
    unfold joinF at h
    split at h
    · cases h
    · show nextF l (putK (putK m j.a j.b) j.b j.a) = m'; exact joinF_next h
theorem joined_next {p : Plan} {m : List (Port × Port)} (h : joined p = some m) : nextF p.joins [] = m := by
  unfold joined at h
  split at h
  · cases h
  · rename_i m' hm
    split at h
    · cases h; exact joinF_next hm
    · cases h
theorem look_fin {p : Plan} {m : List (Port × Port)} (h : Mp p m) (a e : Int) : 0 ≤ (look m a e).fin ∧ (look m a e).fin < 4 := by
  unfold look
  cases hk : getK m ⟨a, e⟩ with
  | none => simp
  | some v => obtain ⟨_, _, _, h1, h2⟩ := Plan.isPort_elem (h _ _ hk); exact ⟨h1, h2⟩
theorem leadStart_range (nx : List (Port × Port)) (l : List Int) : 0 ≤ leadStart nx l ∧ leadStart nx l ≤ 1 := by
  unfold leadStart; split
  · split <;> omega
  · omega
def IsNet (p : Plan) (G : Gh) (v : Value) : Prop :=
  (planCheck p ≠ 0 ∧ v = .tuple #[.pointer none, .int .i64 (planCheck p)]) ∨ (planCheck p = 0 ∧ ∃ g, v = .tuple #[.pointer (some ⟨g, 0, none⟩), .int .i64 0] ∧ NetAt G g (netOf p))
set_option maxRecDepth 20000 in
set_option maxHeartbeats 1000000 in
theorem netNew_ok {G : Gh} {H : List (Nat × Obj)} {W : World} (hp : Hp G H W) {A1 : Option Addr} {n1 c1 : Nat} {A2 : Option Addr} {n2 c2 : Nat} {A3 : Option Addr} {n3 c3 : Nat} {A4 : Option Addr} {n4 c4 : Nat} {p : Plan} (at_ : Plan.At G A1 n1 c1 A2 n2 c2 A3 n3 c3 A4 n4 c4 p) : Calls Tryz.prog 34 ⟨[.agg ⟨[.slice A1 n1 c1, .slice A2 n2 c2, .slice A3 n3 c3, .slice A4 n4 c4, .int .i64 p.top, .int .i64 p.brake, .int .i64 p.margin, .int .i64 p.throw_, .bool p.hard]⟩]⟩ W (RetD G H (IsNet p)) := by
  have l1 := at_.h1.length
  have l2 := at_.h2.length
  have l3 := at_.h3.length
  have l4 := at_.h4.length
  have r1 := Nat.le_trans at_.h1.cap at_.h1.room
  have r2 := Nat.le_trans at_.h2.cap at_.h2.room
  have r3 := Nat.le_trans at_.h3.cap at_.h3.room
  have r4 := Nat.le_trans at_.h4.cap at_.h4.room
  refine enter Tryz.func34 rfl Tryz.ntmps34 (Nat.le_of_ble_eq_true rfl) hp (nx_seq (nx_region ?_))
  refine nx_op rfl (op_box rfl rfl (fun b1 => ?_))
  refine nv v_assign (nv v_assign (nx_nil (nx_then (nx_seq (nx_seq (nx_region (nv v_load_o ?_)))))))
  refine nx_op rfl (op_callD rfl rfl rfl (fun W hp => planCheck_run hp at_) (fun v18 G18 le18 ph18 => ?_))
  subst ph18
  refine nv v_assign (nx_nil (nx_then (nx_seq (nx_region (nv v_move (nv v_neq (nx_nil (nx_then ?_))))))))
  refine nx_cond_dec rfl (fun c20 => ?_) (fun c20 => ?_)
  refine nx_seq (nx_region (nv v_move (nv v_assign (nv v_assign (nx_nil (nx_then (nx_ret (nx_then_ret ?_))))))))
  exact nx_ret2 rfl (.tmp rfl) (.tmp rfl) (rt (le18) (.inl ⟨c20, rfl⟩))
  have hc : planCheck p = 0 := by omega
  have hsm := Plan.small hc
  obtain ⟨_, hnum, _, nx, hj, hsig, hlin, _⟩ := planCheck_ok hc
  have hnx := joined_next hj
  have hmp := joined_mp hj
  refine nx_skip (nx_then (nx_seq (nx_region (nv v_load_o ?_))))
  refine nx_op rfl (op_callD rfl rfl rfl (fun W hp => twin_ok hp (at_.le le18) hsm) (fun v23 G23 le23 ph23 => ?_))
  obtain ⟨B1, u1, v1, B2, u2, v2, B3, u3, v3, B4, u4, v4, rfl, bt⟩ := ph23
  refine nx_op rfl (op_makeMap rfl (fun b24 => ?_))
  refine nx_op rfl (op_makeMap rfl (fun b25 => ?_))
  refine nx_op rfl (op_makeMap rfl (fun b26 => ?_))
  refine nx_op rfl (op_makeMap rfl (fun b27 => ?_))
  refine nv (v_build rfl rfl rfl) ?_
  refine nx_op rfl (op_box rfl rfl (fun b29 => ?_))
  refine nv v_assign (nx_nil (nx_then (nx_seq (nx_seq (nx_region (nv v_fieldAddr (nv v_load1_o (nv v_len (nv v_move (nx_nil (nx_then ?_)))))))))))
  refine nx_block (nf (b := b24) (k := ?_))
  refine nx_loop_v (σ := Nat × Obj × List (Port × Port)) [0, 1, 2, 3, 4, 5, 17, 18, 19, 20, 22, 23, 24, 25, 26, 27, 28, 29, 30, 31, 32] (fun s => [(33, .int .i64 (s.1 : Int))]) (fun _ => G23) (fun s => (b24, s.2.1) :: _) (fun s => MapB Port.val Port.val s.2.1 s.2.2 ∧ nextF (p.joins.drop s.1) s.2.2 = nx) (fun s => n2 - s.1) (0, _, []) (.cons rfl (.cons rfl (.cons rfl (.cons rfl (.cons rfl (.cons rfl (.cons rfl (.cons rfl (.cons rfl (.cons rfl (.cons rfl (.cons rfl (.cons rfl (.cons rfl (.cons rfl (.cons rfl (.cons rfl (.cons rfl (.cons rfl (.cons rfl (.cons rfl (.nil)))))))))))))))))))))) ⟨rfl, trivial⟩ ⟨MapB.new _ _ _, hnx⟩ rfl rfl ?_
  rintro ⟨k, o, m⟩ ⟨hm, hI⟩ K next
  dsimp only at hm hI ⊢
  refine nx_seq (nx_region (nv v_lss (nx_nil (nx_then (nx_seq ?_)))))
  refine nx_cond_dec rfl (fun c34 => ?_) (fun c34 => ?_)
  obtain ⟨x, rest, hd, hx⟩ := drop_of_lt (xs := p.joins) (k := k) (by omega)
  obtain ⟨xb, xo, xe, xk, xr, xf0, xf1, xf2, xf3⟩ := next_Join (at_.le (Gh.le.trans le18 le23)).h2 hd
  cases xe
  rw [hd] at hI
  refine nx_skip (nx_then (nx_seq (nx_block (nx_seq (nx_region (nv (v_indexAddr_nat rfl rfl rfl (by omega)) (nv v_load_s ?_)))))))
  refine nx_op rfl (op_alloc rfl (fun b7 => ?_))
  refine st (k := nx_nil (nx_then (nf (b := b24) (k := dr_begin_cons 21 (.q 0 (.q 1 (.q 2 (.q 3 (.q 4 (.q 5 (.q 6 (.q 7 (.q 8 (.q 9 (.q 10 (.q 11 (.q 12 (.q 13 (.q 14 (.q 15 (.l 16 (.q 17 (.l 18 (.l 19 (.q 20 .done))))))))))))))))))))) rfl (by kernel_rfl) (dr_q rfl rfl v_move (ic.cons _) (dr_q rfl rfl v_nilCheck (ic.cons _) (dr_q rfl rfl v_fieldAddr (ic.cons _) (dr_q rfl rfl v_load1_o (ic.cons _) (dr_q rfl rfl v_fieldAddr (ic.cons _) (dr_q rfl rfl v_load_o (ic.cons _) (dr_q rfl rfl v_move (ic.cons _) ?_)))))))))))
  refine dr_q rfl rfl v_nilCheck (ic.cons _) (dr_q rfl rfl v_fieldAddr (ic.cons _) (dr_q rfl rfl v_load1_o (ic.cons _) (dr_q rfl rfl v_fieldAddr (ic.cons _) (dr_q rfl rfl v_load_o (ic.cons _) (dr_q rfl rfl v_fieldAddr (ic.cons _) (dr_q rfl rfl v_load_o (ic.cons _) (dr_q rfl rfl v_fieldAddr (ic.cons _) (dr_q rfl rfl v_load_o (ic.cons _) (dr_l rfl rfl ?_)))))))))
  refine op_mapEntry keyOk_port x.a ⟨0, 0⟩ (by exact Take.here) hm rfl rfl rfl (by rfl) (fun u53 st53 o53 hm53 => ?_)
  refine dr_k (ic.cons _) (dr_q rfl rfl (v_extract rfl rfl rfl) (ic.cons _) (dr_l rfl rfl ?_))
  refine op_entryStore x.a x.b (by exact Take.here) hm53 rfl rfl rfl (fun o54 hm54 => ?_)
  refine dr_k (ic.cons _) (dr_l rfl rfl ?_)
  refine op_mapEntry keyOk_port x.b ⟨0, 0⟩ (by exact Take.here) hm54 rfl rfl rfl (by rfl) (fun u55 st55 o55 hm55 => ?_)
  refine dr_k (ic.cons _) (dr_q rfl rfl (v_extract rfl rfl rfl) (ic.cons _) (dr_end rfl ?_))
  refine nx_op rfl (op_entryStore x.b x.a (by exact Take.here) hm55 rfl rfl rfl (fun o56 hm56 => ?_))
  refine nx_nil (nx_np ?_)
  refine nx_in _ (nx_then (nx_region (nv v_add (nv v_move (nx_nil (nx_then ?_))))))
  exact nn (next (k + 1, o56, putK (putK m x.a x.b) x.b x.a) ⟨hm56, (by rw [xr]; exact hI)⟩ (by dsimp only; omega))
  refine nx_exit (nx_then_exit (nx_then_exit (nx_in_eq (nx_then (nx_seq (nx_seq (nx_region (nv v_fieldAddr (nv v_load1_o (nv v_len (nv v_move ?_)))))))))))
  refine nx_nil (nx_then (nx_block ?_))
  have hmx : m = nx := by rw [← hI, List.drop_eq_nil_of_le (by omega)]; rfl
  subst hmx
  refine nf (b := b25) (k := ?_)
  refine nx_loop_v (σ := Nat × Obj × List (Port × Int)) [0, 1, 2, 3, 4, 5, 17, 18, 19, 20, 22, 23, 24, 25, 26, 27, 28, 29, 30, 31, 32, 33, 34, 58, 59, 60] (fun s => [(61, .int .i64 (s.1 : Int))]) (fun _ => G23) (fun s => (b25, s.2.1) :: _) (fun s => MapObj Port.val int_ s.2.1 s.2.2 ∧ readsF (p.signals.drop s.1) s.1 s.2.2 = readsF p.signals 0 []) (fun s => n3 - s.1) (0, _, []) (.cons rfl (.cons rfl (.cons rfl (.cons rfl (.cons rfl (.cons rfl (.cons rfl (.cons rfl (.cons rfl (.cons rfl (.cons rfl (.cons rfl (.cons rfl (.cons rfl (.cons rfl (.cons rfl (.cons rfl (.cons rfl (.cons rfl (.cons rfl (.cons rfl (.cons rfl (.cons rfl (.cons rfl (.cons rfl (.cons rfl (.nil))))))))))))))))))))))))))) ⟨rfl, trivial⟩ ⟨MapObj.new _ _ _, rfl⟩ rfl rfl ?_
  rintro ⟨k2, o2, m2⟩ ⟨hm2, hI2⟩ K2 next2
  dsimp only at hm2 hI2 ⊢
  refine nx_seq (nx_region (nv v_lss (nx_nil (nx_then (nx_seq ?_)))))
  refine nx_cond_dec rfl (fun c62 => ?_) (fun c62 => ?_)
  obtain ⟨x, rest, hd, hx⟩ := drop_of_lt (xs := p.signals) (k := k2) (by omega)
  obtain ⟨xb, xo, xe, xk, xr, xf0, xf1, xf2, xf3⟩ := next_Signal (at_.le (Gh.le.trans le18 le23)).h3 hd
  cases xe
  rw [hd] at hI2
  refine nx_skip (nx_then (nx_seq (nx_block (nx_seq (nx_region (nv v_move (nv (v_indexAddr_nat rfl rfl rfl (by omega)) (nv v_load_s ?_))))))))
  refine nx_op rfl (op_alloc rfl (fun b9 => ?_))
  refine nv v_assign (st (k := nx_nil (nx_then (dr_begin 7 (.q 0 (.q 1 (.q 2 (.q 3 (.q 4 (.q 5 (.q 6 .done))))))) rfl (by kernel_rfl) (dr_q rfl rfl v_move ic (dr_q rfl rfl v_nilCheck ic (dr_q rfl rfl v_fieldAddr ic (dr_q rfl rfl v_load1_o ic (dr_q rfl rfl v_fieldAddr ic (dr_q rfl rfl v_load_o ic (dr_q rfl rfl v_move ic ?_)))))))))))
  refine dr_end rfl ?_
  refine nx_op rfl (op_mapUpdate keyOk_port x.at_ (k2 : Int) (by repeat (first | exact Take.here | apply Take.cons | apply Take.app)) hm2 rfl rfl rfl (fun o3 hm3 => ?_))
  refine nx_nil (nx_np ?_)
  refine nx_in _ (nx_then (nx_region (nv v_add (nv v_move (nx_nil (nx_then ?_))))))
  exact nn (next2 (k2 + 1, o3, putK m2 x.at_ (k2 : Int)) ⟨hm3, (by rw [xr]; exact hI2)⟩ (by dsimp only; omega))
  refine nx_exit (nx_then_exit (nx_then_exit (nx_in_eq (nx_then (nx_seq (nx_seq (nx_region (nv v_fieldAddr (nv v_load1_o (nv v_len (nv v_move ?_)))))))))))
  refine nx_nil (nx_then (nx_block ?_))
  have hm2x : m2 = readsF p.signals 0 [] := by rw [← hI2, List.drop_eq_nil_of_le (by omega)]; rfl
  subst hm2x
  refine nf (b := b26) (k := nf (b := b27) (k := ?_))
  refine nx_loop_v (σ := Nat × Obj × Obj × List (Int × (Int × Int)) × List (Int × Int)) [0, 1, 2, 3, 4, 5, 17, 18, 19, 20, 22, 23, 24, 25, 26, 27, 28, 29, 30, 31, 32, 33, 34, 58, 59, 60, 61, 62, 74, 75, 76] (fun s => [(77, .int .i64 (s.1 : Int))]) (fun _ => G23) (fun s => (b27, s.2.2.1) :: (b26, s.2.1) :: _) (fun s => MapB int_ pairv s.2.1 s.2.2.2.1 ∧ MapB int_ int_ s.2.2.1 s.2.2.2.2 ∧ linesGo m (p.lines.drop s.1) s.1 s.2.2.2.1 s.2.2.2.2 = linesGo m p.lines 0 [] []) (fun s => n4 - s.1) (0, _, _, [], []) (.cons rfl (.cons rfl (.cons rfl (.cons rfl (.cons rfl (.cons rfl (.cons rfl (.cons rfl (.cons rfl (.cons rfl (.cons rfl (.cons rfl (.cons rfl (.cons rfl (.cons rfl (.cons rfl (.cons rfl (.cons rfl (.cons rfl (.cons rfl (.cons rfl (.cons rfl (.cons rfl (.cons rfl (.cons rfl (.cons rfl (.cons rfl (.cons rfl (.cons rfl (.cons rfl (.cons rfl (.nil)))))))))))))))))))))))))))))))) ⟨rfl, trivial⟩ ⟨MapB.new _ _ _, MapB.new _ _ _, rfl⟩ rfl rfl ?_
  rintro ⟨k3, oL, oD, L, D⟩ ⟨hL, hD, hI3⟩ K3 next3
  dsimp only at hL hD hI3 ⊢
  refine nx_seq (nx_region (nv v_lss (nx_nil (nx_then (nx_seq ?_)))))
  refine nx_cond_dec rfl (fun c78 => ?_) (fun c78 => ?_)
  obtain ⟨x, rest, hd, hx⟩ := drop_of_lt (xs := p.lines) (k := k3) (by omega)
  obtain ⟨xb, xo, xA1, xn1, xc1, xe, xk, xr, xf0, xf1, xat⟩ := next_Line (at_.le (Gh.le.trans le18 le23)).h4 hd
  cases xe
  rw [hd] at hI3
  have hxl := xat.h1.length
  have hxs := hsm.line x (List.mem_of_getElem? hx)
  have hls := leadStart_range m x.elems
  refine nx_skip (nx_then (nx_seq (nx_block (nx_seq (nx_region (nv v_move (nv (v_indexAddr_nat rfl rfl rfl (by omega)) (nv v_load_s ?_))))))))
  refine nx_op rfl (op_alloc rfl (fun b11 => ?_))
  refine nv v_assign (st (k := nx_nil (nx_then (nx_seq (nx_region (nv v_assign (nx_nil (nx_then (nx_seq (nx_seq (nx_region ?_)))))))))))
  refine nv v_fieldAddr (nv v_load1_o (nv v_len (nv v_gtr (nx_nil (nx_then ?_)))))
  refine nx_join0 (σ := Unit) [0, 1, 2, 3, 4, 5, 10, 11, 17, 18, 19, 20, 22, 23, 24, 25, 26, 27, 28, 29, 30, 31, 32, 33, 34, 58, 59, 60, 61, 62, 74, 75, 76, 77, 78, 79, 80, 81, 82, 83, 84] (fun _ => [(12, .int .i64 (leadStart m x.elems))]) (fun _ => True) (.cons rfl (.cons rfl (.cons rfl (.cons rfl (.cons rfl (.cons rfl (.cons rfl (.cons rfl (.cons rfl (.cons rfl (.cons rfl (.cons rfl (.cons rfl (.cons rfl (.cons rfl (.cons rfl (.cons rfl (.cons rfl (.cons rfl (.cons rfl (.cons rfl (.cons rfl (.cons rfl (.cons rfl (.cons rfl (.cons rfl (.cons rfl (.cons rfl (.cons rfl (.cons rfl (.cons rfl (.cons rfl (.cons rfl (.cons rfl (.cons rfl (.cons rfl (.cons rfl (.cons rfl (.cons rfl (.cons rfl (.cons rfl (.nil)))))))))))))))))))))))))))))))))))))))))) ?_ (fun _ _ => ?_)
  intro K4 next4
  refine nx_cond_dec rfl (fun c85 => ?_) (fun c85 => ?_)
  obtain ⟨a, r0, hd0, ha⟩ := drop_of_lt (xs := x.elems) (k := 0) (by omega)
  obtain ⟨b, r1, hd1, hb1⟩ := drop_of_lt (xs := x.elems) (k := 1) (by omega)
  obtain ⟨yb, yo, ye, yk, yf0⟩ := get_Int xat.h1 ha
  cases ye
  obtain ⟨zb, zo, ze, zk, zf0⟩ := get_Int xat.h1 hb1
  cases ze
  have hl2 : x.elems = a :: b :: r1 := by
    have h0 : x.elems = a :: r0 := by simpa using hd0
    have h1 : x.elems.drop 1 = r0 := by rw [h0]; rfl
    rw [hd1] at h1; rw [h0, ← h1]
  have hlq : leadStart m x.elems = if (getK m ⟨a, 0⟩).isSome && decide ((look m a 0).elem = b) then 1 else 0 := by rw [hl2]; rfl
  refine nx_seq (dr_begin 16 (.q 0 (.q 1 (.q 2 (.q 3 (.q 4 (.q 5 (.q 6 (.q 7 (.q 8 (.q 9 (.q 10 (.q 11 (.q 12 (.l 13 (.l 14 (.q 15 .done)))))))))))))))) rfl (by kernel_rfl) (dr_q rfl rfl v_move ic (dr_q rfl rfl v_nilCheck ic (dr_q rfl rfl v_fieldAddr ic (dr_q rfl rfl v_load1_o ic (dr_q rfl rfl v_fieldAddr ic (dr_q rfl rfl v_load1_o ic (dr_q rfl rfl (v_indexAddr_nat (k := 0) rfl rfl rfl (by omega)) ic (dr_q rfl rfl v_load1_s ic (dr_q rfl rfl (v_build rfl rfl rfl) ic ?_))))))))))
  refine dr_q rfl rfl (v_lookup_ok keyOk_port ⟨a, 0⟩ ⟨0, 0⟩ (.own (by repeat (first | exact Take.here | apply Take.cons | apply Take.app)) hm.obj) rfl rfl rfl (by rfl)) ic ?_
  refine dr_q rfl rfl v_move ic (dr_q rfl rfl (v_extract rfl rfl rfl) ic (dr_q rfl rfl (v_extract rfl rfl rfl) ic (dr_l rfl rfl ?_)))
  refine op_alloc rfl (fun b13 => ?_)
  refine dr_k (ic.cons _) (dr_l rfl rfl ?_)
  refine op_sto rfl rfl rfl rfl rfl (by repeat (first | exact UpdS.here rfl | apply UpdS.cons | apply UpdS.app)) ?_
  refine dr_k (ic.cons _) (dr_q rfl rfl v_assign (ic.cons _) (dr_end rfl ?_))
  refine nx_nil (nx_np ?_)
  refine nx_then (nx_seq (dr_begin 10 (.q 0 (.q 1 (.q 2 (.q 3 (.q 4 (.q 5 (.q 6 (.q 7 (.q 8 (.q 9 .done)))))))))) rfl (by kernel_rfl) (dr_q rfl rfl v_move ic (dr_q rfl rfl v_move ic ?_))))
  refine nx_guard (t := 100) rfl (fun g100 => ?_) (fun g100 => ?_)
  refine dr_q_run rfl rfl rfl rfl v_fieldAddr ic (dr_q_run rfl rfl rfl rfl v_load1_o ic (dr_q_run rfl rfl rfl rfl v_fieldAddr ic (dr_q_run rfl rfl rfl rfl v_load1_o ic (dr_q_run rfl rfl rfl rfl (v_indexAddr_nat (k := 1) rfl rfl rfl (by omega)) ic (dr_q_run rfl rfl rfl rfl v_load1_s ic (dr_q_run rfl rfl rfl rfl v_eql ic (dr_q rfl rfl v_pick_t ic (dr_end rfl ?_))))))))
  refine nx_nil (nx_np ?_)
  refine nx_then ?_
  refine nx_cond_dec rfl (fun c108 => ?_) (fun c108 => ?_)
  refine nx_region (nv v_assign (nx_nil (nx_then ?_)))
  have h1 : leadStart m x.elems = 1 := by rw [hlq]; exact if_pos (by rw [g100, Bool.true_and]; exact decide_eq_true c108)
  have n4' := next4 () trivial
  rw [h1] at n4'
  exact nn (n4')
  refine nx_skip (nx_then ?_)
  have h1 : leadStart m x.elems = 0 := by rw [hlq]; exact if_neg (by rw [g100, Bool.true_and]; intro h; exact c108 (of_decide_eq_true h))
  have n4' := next4 () trivial
  rw [h1] at n4'
  exact nn (n4')
  refine dk (k := dk (k := dk (k := dk (k := dk (k := dk (k := dk (k := dr_q rfl rfl v_pick_f ic (dr_end rfl ?_))))))))
  refine nx_nil (nx_np ?_)
  refine nx_then (nx_cond_f rfl (nx_skip (nx_then ?_)))
  have h1 : leadStart m x.elems = 0 := by rw [hlq]; exact if_neg (by rw [g100]; simp)
  have n4' := next4 () trivial
  rw [h1] at n4'
  exact nn (n4')
  refine nx_skip (nx_then ?_)
  have h1 : leadStart m x.elems = 0 := by
    revert c85 hxl
    cases x.elems with
    | nil => intro _ _; rfl
    | cons a r => cases r with
      | nil => intro _ _; rfl
      | cons b r => intro h1 h2; simp at h1; omega
  have n4' := next4 () trivial
  rw [h1] at n4'
  exact nn (n4')
  refine nx_seq (nx_region (nv v_fieldAddr (nv v_load1_o (nv v_len (nv v_move (nx_nil (nx_then (nx_block (nf (b := b26) (k := nf (b := b27) (k := ?_)))))))))))
  refine nx_loop_v (σ := Nat × Int × Obj × Obj × List (Int × (Int × Int)) × List (Int × Int)) [0, 1, 2, 3, 4, 5, 10, 11, 17, 18, 19, 20, 22, 23, 24, 25, 26, 27, 28, 29, 30, 31, 32, 33, 34, 58, 59, 60, 61, 62, 74, 75, 76, 77, 78, 79, 80, 81, 82, 83, 84, 109, 110, 111] (fun s => [(112, .int .i64 (s.1 : Int)), (12, .int .i64 s.2.1)]) (fun _ => G23) (fun s => (b27, s.2.2.2.1) :: (b26, s.2.2.1) :: _) (fun s => MapB int_ pairv s.2.2.1 s.2.2.2.2.1 ∧ MapB int_ int_ s.2.2.2.1 s.2.2.2.2.2 ∧ (0 ≤ s.2.1 ∧ s.2.1 < 4) ∧ lineGo m (k3 : Int) (x.elems.drop s.1) s.1 s.2.1 s.2.2.2.2.1 s.2.2.2.2.2 = lineGo m (k3 : Int) x.elems 0 (leadStart m x.elems) L D) (fun s => xn1 - s.1) (0, leadStart m x.elems, oL, oD, L, D) (.cons rfl (.cons rfl (.cons rfl (.cons rfl (.cons rfl (.cons rfl (.cons rfl (.cons rfl (.cons rfl (.cons rfl (.cons rfl (.cons rfl (.cons rfl (.cons rfl (.cons rfl (.cons rfl (.cons rfl (.cons rfl (.cons rfl (.cons rfl (.cons rfl (.cons rfl (.cons rfl (.cons rfl (.cons rfl (.cons rfl (.cons rfl (.cons rfl (.cons rfl (.cons rfl (.cons rfl (.cons rfl (.cons rfl (.cons rfl (.cons rfl (.cons rfl (.cons rfl (.cons rfl (.cons rfl (.cons rfl (.cons rfl (.cons rfl (.cons rfl (.cons rfl (.nil))))))))))))))))))))))))))))))))))))))))))))) ⟨rfl, rfl, trivial⟩ ⟨hL, hD, (by dsimp only; omega), rfl⟩ rfl rfl ?_
  rintro ⟨k4, inn, oL4, oD4, L4, D4⟩ ⟨hL4, hD4, hin, hI4⟩ K5 next5
  dsimp only at hL4 hD4 hin hI4 ⊢
  refine nx_seq (nx_region (nv v_lss (nx_nil (nx_then (nx_seq ?_)))))
  refine nx_cond_dec rfl (fun c113 => ?_) (fun c113 => ?_)
  obtain ⟨e, rest4, hd4, he⟩ := drop_of_lt (xs := x.elems) (k := k4) (by omega)
  obtain ⟨wb, wo, we, wk, wr, wf0⟩ := next_Int xat.h1 hd4
  cases we
  rw [hd4] at hI4
  refine nx_skip (nx_then (nx_seq (nx_block (nx_seq (nx_region (nv v_move (nv (v_indexAddr_nat rfl rfl rfl (by omega)) (nv v_load1_s (nv v_assign (nv v_assign (nx_nil ?_)))))))))))
  refine nx_then (nx_seq (nf (b := b26) (k := nf (b := b27) (k := dr_begin_cons2 19 (.q 0 (.q 1 (.q 2 (.q 3 (.q 4 (.q 5 (.q 6 (.q 7 (.q 8 (.q 9 (.q 10 (.q 11 (.q 12 (.q 13 (.l 14 (.q 15 (.l 16 (.l 17 (.q 18 .done))))))))))))))))))) rfl (by kernel_rfl) (dr_q rfl rfl v_move ((ic.cons _).cons _) (dr_q rfl rfl v_nilCheck ((ic.cons _).cons _) (dr_q rfl rfl v_fieldAddr ((ic.cons _).cons _) (dr_q rfl rfl v_load1_o ((ic.cons _).cons _) (dr_q rfl rfl v_move ((ic.cons _).cons _) (dr_q rfl rfl v_move ((ic.cons _).cons _) ?_))))))))))
  refine dr_q rfl rfl v_nilCheck ((ic.cons _).cons _) (dr_q rfl rfl v_fieldAddr ((ic.cons _).cons _) (dr_q rfl rfl v_load1_o ((ic.cons _).cons _) (dr_q rfl rfl v_move ((ic.cons _).cons _) (dr_q rfl rfl v_move ((ic.cons _).cons _) (dr_q rfl rfl v_move ((ic.cons _).cons _) (dr_q rfl rfl (v_buildA rfl rfl rfl) ((ic.cons _).cons _) (dr_q rfl rfl v_move ((ic.cons _).cons _) (dr_l rfl rfl ?_))))))))
  refine op_mapEntry keyInt e (0, 0) (by repeat (first | exact Take.here | apply Take.cons | apply Take.app)) hL4 rfl rfl rfl (by rfl) (fun u1 st1 o1 hm1 => ?_)
  refine dr_k ((ic.cons _).cons _) (dr_q rfl rfl (v_extract rfl rfl rfl) ((ic.cons _).cons _) (dr_l rfl rfl ?_))
  refine op_entryStore e ((k3 : Int), (k4 : Int)) (by repeat (first | exact Take.here | apply Take.cons | apply Take.app)) hm1 rfl rfl rfl (fun o2 hm2 => ?_)
  refine dr_k ((ic.cons _).cons _) (dr_l rfl rfl ?_)
  refine op_mapEntry keyInt e 0 (by repeat (first | exact Take.here | apply Take.cons | apply Take.app)) hD4 rfl rfl rfl (by rfl) (fun u3 st3 o3 hm3 => ?_)
  refine dr_k ((ic.cons _).cons _) (dr_q rfl rfl (v_extract rfl rfl rfl) ((ic.cons _).cons _) (dr_end rfl ?_))
  refine nx_op rfl (op_entryStore e inn (by repeat (first | exact Take.here | apply Take.cons | apply Take.app)) hm3 rfl rfl rfl (fun o4 hm4 => ?_))
  refine nx_nil (nx_np ?_)
  refine nx_then (nx_region (nv v_move (nv v_nilCheck (nv v_fieldAddr (nv v_load1_o (nv v_move (nv v_move (nv v_sub (nv (v_build rfl rfl rfl) ?_)))))))))
  refine nv (v_lookup keyOk_port ⟨e, 1 - inn⟩ ⟨0, 0⟩ (.own (by repeat (first | exact Take.here | apply Take.cons | apply Take.app)) hm.obj) rfl rfl rfl (by rfl)) ?_
  refine nv (v_field1 rfl rfl rfl) (nv v_assign (nx_nil (nx_in _ (nx_then (nx_region (nv v_add (nv v_move (nx_nil (nx_then ?_)))))))))
  have hnf := look_fin hmp e (1 - inn)
  exact nn (next5 (k4 + 1, (look m e (1 - inn)).fin, o2, o4, putK L4 e ((k3 : Int), (k4 : Int)), putK D4 e inn) ⟨hm2, hm4, hnf, (by rw [wr]; exact hI4)⟩ (by dsimp only; omega))
  refine nx_exit (nx_then_exit (nx_then_exit (nx_in_eq (nx_in _ (nx_then (nx_region (nv v_add (nv v_move (nx_nil (nx_then ?_))))))))))
  have hg : lineGo m (k3 : Int) x.elems 0 (leadStart m x.elems) L D = (L4, D4) := by rw [← hI4, List.drop_eq_nil_of_le (by omega)]; rfl
  exact nn (next3 (k3 + 1, oL4, oD4, L4, D4) ⟨hL4, hD4, (by rw [xr, ← hI3]; show linesGo m rest (k3 + 1) L4 D4 = (let q := lineGo m (k3 : Int) x.elems 0 (leadStart m x.elems) L D; linesGo m rest (k3 + 1) q.1 q.2); rw [hg])⟩ (by dsimp only; omega))
  refine nx_exit (nx_then_exit (nx_then_exit (nx_in_eq (nx_then (nx_seq (nx_region (nv v_move (nv v_assign (nv v_assign (nx_nil (nx_then ?_)))))))))))
  refine nx_ret ?_
  have hq : linesGo m p.lines 0 [] [] = (L, D) := by rw [← hI3, List.drop_eq_nil_of_le (by omega)]; rfl
  have hN : netOf p = ⟨p, m, readsF p.signals 0 [], L, D⟩ := by unfold netOf; simp only [hnx, hq]
  refine nx_keep (b := b24) ((by repeat (first | exact Take.here | apply Take.cons | apply Take.app))) (fun Ga lea ha => ?_)
  refine nx_keep (b := b25) ((by repeat (first | exact Take.here | apply Take.cons | apply Take.app))) (fun Gb leb hb => ?_)
  refine nx_keep (b := b26) ((by repeat (first | exact Take.here | apply Take.cons | apply Take.app))) (fun Gc lec hc6 => ?_)
  refine nx_keep (b := b27) ((by repeat (first | exact Take.here | apply Take.cons | apply Take.app))) (fun Gd led hd7 => ?_)
  refine nx_keep (b := b29) ((by repeat (first | exact Take.here | apply Take.cons | apply Take.app))) (fun Ge lee he9 => ?_)
  exact nx_ret2 rfl (.tmp rfl) (.tmp rfl) (rt ((Gh.le.trans le18 (Gh.le.trans le23 (Gh.le.trans lea (Gh.le.trans leb (Gh.le.trans lec (Gh.le.trans led lee))))))) (.inr ⟨hc, b29, rfl, (by rw [hN]; exact ⟨B1, u1, v1, B2, u2, v2, B3, u3, v3, B4, u4, v4, b24, b25, b26, b27, cell_row he9 rfl, cell_row he9 rfl, cell_row he9 rfl, cell_row he9 rfl, cell_row he9 rfl, cell_row he9 rfl, cell_row he9 rfl, cell_row he9 rfl, cell_row he9 rfl, cell_row he9 rfl, cell_row he9 rfl, cell_row he9 rfl, cell_row he9 rfl, bt.le (lea.trans (leb.trans (lec.trans (led.trans lee)))), ⟨_, (leb.trans (lec.trans (led.trans lee))).get _ _ ha, hm.obj⟩, ⟨_, (lec.trans (led.trans lee)).get _ _ hb, hm2⟩, ⟨_, (led.trans lee).get _ _ hc6, hL.obj⟩, ⟨_, lee.get _ _ hd7, hD.obj⟩⟩)⟩))
end Go.Proofs.YtjckojnlapchoaaGreat
open Go Go.RowKit
namespace Go.Proofs.YtjckojnlapchoaaGreat
open Go.Proofs
def Plan.portOk (p : Plan) (x : Port) : Bool := decide (0 ≤ x.fin) && decide (x.fin < ends (p.kind x.elem))
def NetD.gateAt (N : NetD) (x : Port) : Bool := (getK N.next x).isSome && decide (N.p.kind ((getK N.next x).getD ⟨0, 0⟩).elem = 4)
def Body.rests (b : Body) : Bool := decide (b.left = 0) && decide (b.over = 0) && decide (b.v = 0)
def waitsOk (p : Plan) (b : Body) : Bool := match b.trail with
  | [h] => decide (p.kind h.elem = 4) && decide (h.fin = 0) && b.rests
  | _ => false
def Body.head (b : Body) : Option Port := b.trail.getLast?
set_option maxRecDepth 20000 in
set_option maxHeartbeats 1000000 in
theorem bport_ok {G : Gh} {H : List (Nat × Obj)} {W : World} (hp : Hp G H W) {g : Nat} {N : NetD} (h : NetAt G g N) (x : Port) : Calls Tryz.prog 165 ⟨[.pointer (some ⟨g, 0, none⟩), .agg ⟨x.cells⟩]⟩ W (RetS G H (.bool (N.p.portOk x))) := by
  refine enter Tryz.func165 rfl Tryz.ntmps165 (Nat.le_of_ble_eq_true rfl) hp (nx_seq (nx_region ?_))
  refine nx_op rfl (op_box rfl rfl (fun b3 => ?_))
  refine nv v_assign (nx_nil (nx_then (nx_seq (dr_begin 14 (.q 0 (.q 1 (.q 2 (.q 3 (.q 4 (.q 5 (.q 6 (.q 7 (.q 8 (.l 9 (.l 10 (.q 11 (.q 12 (.q 13 .done)))))))))))))) rfl (by kernel_rfl) (dr_q rfl rfl v_fieldAddr ic (dr_q rfl rfl v_load1_o ic (dr_q rfl rfl v_geq ic (dr_q rfl rfl v_move ic ?_))))))))
  refine nx_guard_dec (t := 8) rfl (fun g8 => ?_) (fun g8 => ?_)
  refine dr_q_run rfl rfl rfl rfl v_fieldAddr ic (dr_q_run rfl rfl rfl rfl v_load1_o ic (dr_q_run rfl rfl rfl rfl v_move ic (dr_q_run rfl rfl rfl rfl v_fieldAddr ic (dr_q_run rfl rfl rfl rfl v_load1_o ic (dr_l_run rfl rfl rfl rfl ?_)))))
  refine op_callS rfl rfl rfl (fun W hp => kind_ok hp h x.elem) ?_
  refine dr_k ic (dr_l_run rfl rfl rfl rfl ?_)
  refine op_callS rfl rfl rfl (fun W hp => ends_ok hp _) ?_
  refine dr_k ic (dr_q_run rfl rfl rfl rfl v_lss ic (dr_q rfl rfl v_pick_t ic (dr_q rfl rfl v_assign ic (dr_end rfl ?_))))
  refine nx_nil (nx_np ?_)
  refine nx_then (nx_ret ?_)
  exact nx_ret1 rfl (.tmp rfl) (rs (by simp [Plan.portOk, *]))
  refine dk (k := dk (k := dk (k := dk (k := dk (k := dr_l_skip rfl rfl rfl rfl rfl rfl ic (dr_l_skip rfl rfl rfl rfl rfl rfl ic (dk (k := dr_q rfl rfl v_pick_f ic (dr_q rfl rfl v_assign ic (dr_end rfl ?_))))))))))
  refine nx_nil (nx_np ?_)
  refine nx_then (nx_ret ?_)
  exact nx_ret1 rfl (.tmp rfl) (rs (by simp [Plan.portOk, *]))
set_option maxRecDepth 20000 in
set_option maxHeartbeats 1000000 in
theorem bgate_ok {G : Gh} {H : List (Nat × Obj)} {W : World} (hp : Hp G H W) {g : Nat} {N : NetD} (h : NetAt G g N) (x : Port) : Calls Tryz.prog 188 ⟨[.pointer (some ⟨g, 0, none⟩), .agg ⟨x.cells⟩]⟩ W (RetS G H (.bool (N.gateAt x))) := by
  refine enter Tryz.func188 rfl Tryz.ntmps188 (Nat.le_of_ble_eq_true rfl) hp (nx_seq (nx_region ?_))
  refine nx_op rfl (op_box rfl rfl (fun b3 => ?_))
  refine nv v_assign (nx_nil (nx_then (nx_seq (nx_region (nv v_move (nv v_load_o ?_))))))
  refine nx_op rfl (op_callS rfl rfl rfl (fun W hp => next_ok hp h x) ?_)
  refine nv v_move (nv (v_extract rfl rfl rfl) (nv (v_extract rfl rfl rfl) ?_))
  refine nx_op rfl (op_alloc rfl (fun b5 => ?_))
  refine st (k := nv v_assign (nx_nil (nx_then (nx_seq (nx_region (nv v_move (nv v_move ?_)))))))
  refine nx_guard (t := 14) rfl (fun g14 => ?_) (fun g14 => ?_)
  refine nr v_move (nr v_fieldAddr (nr v_load1_o ?_))
  refine nx_op_run rfl rfl rfl (op_callS rfl rfl rfl (fun W hp => kind_ok hp h _) ?_)
  refine nr v_eql (nv v_pick_t (nv v_assign (nx_nil (nx_then (nx_ret ?_)))))
  exact nx_ret1 rfl (.tmp rfl) (rs (by simp [NetD.gateAt, *]))
  refine nk (k := nk (k := nk (k := nk (k := nk (k := nv v_pick_f (nv v_assign (nx_nil (nx_then (nx_ret ?_)))))))))
  exact nx_ret1 rfl (.tmp rfl) (rs (by simp [NetD.gateAt, *]))
set_option maxRecDepth 20000 in
set_option maxHeartbeats 1000000 in
theorem rests_ok {G : Gh} {H : List (Nat × Obj)} {W : World} (hp : Hp G H W) {A1 : Option Addr} {n1 c1 : Nat} (b : Body) : Calls Tryz.prog 152 ⟨[.agg ⟨[.int .i64 b.mode, .slice A1 n1 c1, .int .i64 b.left, .int .i64 b.over, .int .i64 b.v]⟩]⟩ W (RetS G H (.bool b.rests)) := by
  refine enter Tryz.func152 rfl Tryz.ntmps152 (Nat.le_of_ble_eq_true rfl) hp (nx_seq (nx_region ?_))
  refine nx_op rfl (op_box rfl rfl (fun b1 => ?_))
  refine nv v_assign (nx_nil (nx_then (nx_seq (nx_region (nv v_fieldAddr (nv v_load1_o (nv v_eql (nv v_move ?_))))))))
  refine nx_guard_dec (t := 6) rfl (fun g6 => ?_) (fun g6 => ?_)
  refine nr v_fieldAddr (nr v_load1_o (nr v_eql (nv v_pick_t (nv v_move ?_))))
  refine nx_guard_dec (t := 11) rfl (fun g11 => ?_) (fun g11 => ?_)
  refine nr v_fieldAddr (nr v_load1_o (nr v_eql (nv v_pick_t (nv v_assign (nx_nil (nx_then (nx_ret ?_)))))))
  exact nx_ret1 rfl (.tmp rfl) (rs (by simp [Body.rests, *]))
  refine nk (k := nk (k := nk (k := nv v_pick_f (nv v_assign (nx_nil (nx_then (nx_ret ?_)))))))
  exact nx_ret1 rfl (.tmp rfl) (rs (by simp [Body.rests, *]))
  refine nk (k := nk (k := nk (k := nv v_pick_f (nv v_move (nk (k := nk (k := nk (k := nv v_pick_f (nv v_assign (nx_nil (nx_then ?_)))))))))))
  refine nx_ret ?_
  exact nx_ret1 rfl (.tmp rfl) (rs (by simp [Body.rests, *]))
set_option maxRecDepth 20000 in
set_option maxHeartbeats 1000000 in
theorem waits_ok {G : Gh} {H : List (Nat × Obj)} {W : World} (hp : Hp G H W) {g : Nat} {N : NetD} (h : NetAt G g N) {A1 : Option Addr} {n1 c1 : Nat} {b : Body} (bt : Body.At G A1 n1 c1 b) : Calls Tryz.prog 151 ⟨[.pointer (some ⟨g, 0, none⟩), .agg ⟨[.int .i64 b.mode, .slice A1 n1 c1, .int .i64 b.left, .int .i64 b.over, .int .i64 b.v]⟩]⟩ W (RetS G H (.bool (waitsOk N.p b))) := by
  have hl := bt.h1.length
  refine enter Tryz.func151 rfl Tryz.ntmps151 (Nat.le_of_ble_eq_true rfl) hp (nx_seq (nx_region ?_))
  refine nx_op rfl (op_box rfl rfl (fun b3 => ?_))
  refine nv v_assign (nx_nil (nx_then (nx_seq (nx_region (nv v_fieldAddr (nv v_load1_o (nv v_len (nv v_eql (nv v_move ?_)))))))))
  refine nx_guard_dec (t := 9) rfl (fun g9 => ?_) (fun g9 => ?_)
  obtain ⟨x, hx⟩ : ∃ x, b.trail = [x] := List.length_eq_one_iff.1 (by omega)
  obtain ⟨xb, xo, xe, xk, xf0, xf1⟩ := get_Port bt.h1 (by rw [hx]; rfl : b.trail[0]? = some x)
  cases xe
  refine nr v_move (nr v_fieldAddr (nr v_load1_o (nr (v_indexAddr_nat (k := 0) rfl rfl rfl (by omega)) (nr v_fieldAddr (nr v_load1_s ?_)))))
  refine nx_op_run rfl rfl rfl (op_callS rfl rfl rfl (fun W hp => kind_ok hp h x.elem) ?_)
  refine nr v_eql (nv v_pick_t (nv v_move ?_))
  refine nx_guard_dec (t := 19) rfl (fun g19 => ?_) (fun g19 => ?_)
  refine nr v_fieldAddr (nr v_load1_o (nr (v_indexAddr_nat (k := 0) rfl rfl rfl (by omega)) (nr v_fieldAddr (nr v_load1_s (nr v_eql (nv v_pick_t (nv v_move ?_)))))))
  refine nx_guard_dec (t := 27) rfl (fun g27 => ?_) (fun g27 => ?_)
  refine nr v_load_o ?_
  refine nx_op_run rfl rfl rfl (op_callS rfl rfl rfl (fun W hp => rests_ok hp b) ?_)
  refine nv v_pick_t (nv v_assign (nx_nil (nx_then (nx_ret ?_))))
  exact nx_ret1 rfl (.tmp rfl) (rs (by (unfold waitsOk; rw [hx]; simp [*]; done)))
  refine nk (k := nk (k := nv v_pick_f (nv v_assign (nx_nil (nx_then (nx_ret ?_))))))
  exact nx_ret1 rfl (.tmp rfl) (rs (by (unfold waitsOk; rw [hx]; simp [*]; done)))
  refine nk (k := nk (k := nk (k := nk (k := nk (k := nk (k := nv v_pick_f (nv v_move (nk (k := nk (k := nv v_pick_f (nv v_assign ?_)))))))))))
  refine nx_nil (nx_then (nx_ret ?_))
  exact nx_ret1 rfl (.tmp rfl) (rs (by (unfold waitsOk; rw [hx]; simp [*]; done)))
  have hno : waitsOk N.p b = false := by
    unfold waitsOk; split
    · rename_i x hx; rw [hx] at hl; simp at hl; omega
    · rfl
  refine nk (k := nk (k := nk (k := nk (k := nk (k := nk (k := nk (k := nk (k := nv v_pick_f (nv v_move (nk (k := nk (k := ?_))))))))))))
  refine nk (k := nk (k := nk (k := nk (k := nv v_pick_f (nv v_move (nk (k := nk (k := nv v_pick_f (nv v_assign (nx_nil (nx_then ?_)))))))))))
  refine nx_ret ?_
  exact nx_ret1 rfl (.tmp rfl) (rs (by (rw [hno]; done)))
set_option maxRecDepth 20000 in
set_option maxHeartbeats 1000000 in
theorem head_ok {G : Gh} {H : List (Nat × Obj)} {W : World} (hp : Hp G H W) {A1 : Option Addr} {n1 c1 : Nat} {b : Body} (bt : Body.At G A1 n1 c1 b) : Calls Tryz.prog 112 ⟨[.agg ⟨[.int .i64 b.mode, .slice A1 n1 c1, .int .i64 b.left, .int .i64 b.over, .int .i64 b.v]⟩]⟩ W (RetS G H (.tuple #[.agg ⟨(b.head.getD ⟨0, 0⟩).cells⟩, .bool b.head.isSome])) := by
  have hl := bt.h1.length
  have hr := Nat.le_trans bt.h1.cap bt.h1.room
  refine enter Tryz.func112 rfl Tryz.ntmps112 (Nat.le_of_ble_eq_true rfl) hp (nx_seq (nx_region ?_))
  refine nx_op rfl (op_box rfl rfl (fun b1 => ?_))
  refine nx_op rfl (op_alloc rfl (fun b2 => ?_))
  refine nv v_assign (nx_nil (nx_then (nx_seq (nx_seq (nx_region (nv v_fieldAddr (nv v_load1_o (nv v_len (nv v_eql (nx_nil (nx_then ?_)))))))))))
  refine nx_cond_dec rfl (fun c7 => ?_) (fun c7 => ?_)
  have hh : b.head = none := by unfold Body.head; rw [List.getLast?_eq_none_iff]; exact List.length_eq_zero_iff.1 (by omega)
  refine nx_seq (nx_region (nv (v_build rfl rfl rfl) (st (k := nv v_assign (nx_nil (nx_then (nx_ret (nx_then_ret ?_))))))))
  exact nx_ret2 rfl ro (.tmp rfl) (rs (by rw [hh]; rfl))
  obtain ⟨x, hx⟩ : ∃ x, b.trail[n1 - 1]? = some x := ⟨_, List.getElem?_eq_getElem (by omega)⟩
  obtain ⟨xb, xo, xe, xk, xf0, xf1⟩ := get_Port bt.h1 hx
  cases xe
  have hh : b.head = some x := by unfold Body.head; rw [List.getLast?_eq_getElem?, hl]; exact hx
  refine nx_skip (nx_then (nx_seq (nx_region (nv v_fieldAddr (nv v_load1_o (nv v_fieldAddr (nv v_load1_o (nv v_len (nv v_sub ?_)))))))))
  refine nv (v_indexAddr_nat (k := n1 - 1) rfl rfl (by rw [show ((n1 - 1 : Nat) : Int) = (n1 : Int) - 1 by omega]; rfl) (by omega)) ?_
  refine nv v_load_s (st (k := nv v_assign (nx_nil (nx_then (nx_ret ?_)))))
  exact nx_ret2 rfl ro (.tmp rfl) (rs (by rw [hh]; rfl))
end Go.Proofs.YtjckojnlapchoaaGreat
open Go Go.RowKit
namespace Go.Proofs.YtjckojnlapchoaaGreat
open Go.Proofs
def NetD.after (N : NetD) (x : Port) : Port := (getK N.next x).getD ⟨0, 0⟩
def NetD.follows (N : NetD) (x y : Port) : Bool := (getK N.next x).isSome && decide ((N.after x).elem = y.elem) && (outs N.p (N.after x).elem (N.after x).fin).any (fun w => decide (w.out = y.fin))
set_option maxRecDepth 20000 in
set_option maxHeartbeats 1000000 in
theorem follows1_ok {G : Gh} {H : List (Nat × Obj)} {W : World} (hp : Hp G H W) {b : Nat} {x : Port} (hm : (b, row x.cells 71) ∈ H) (w : Way) : Calls Tryz.prog 203 ⟨[.agg ⟨w.cells⟩, .pointer (some ⟨b, 0, none⟩)]⟩ W (RetS G H (.bool (decide (w.out = x.fin)))) := by
  refine enter Tryz.func203 rfl Tryz.ntmps203 (Nat.le_of_ble_eq_true rfl) hp (nx_seq (nx_region ?_))
  refine nx_op rfl (op_box rfl rfl (fun b2 => ?_))
  refine nv v_assign (nx_nil (nx_then (nx_seq (nx_region (nv v_fieldAddr (nv v_load1_o (nv v_fieldAddr (nv (v_load1 rfl rfl (Rd.own (List.mem_cons_of_mem _ hm) rfl)) (nv v_eql (nv v_assign (nx_nil ?_)))))))))))
  refine nx_then (nx_ret ?_)
  exact nx_ret1 rfl (.tmp rfl) (rs (rfl))
set_option maxRecDepth 20000 in
set_option maxHeartbeats 1000000 in
theorem follows_ok {G : Gh} {H : List (Nat × Obj)} {W : World} (hp : Hp G H W) {g : Nat} {N : NetD} (h : NetAt G g N) (x y : Port) : Calls Tryz.prog 187 ⟨[.pointer (some ⟨g, 0, none⟩), .agg ⟨x.cells⟩, .agg ⟨y.cells⟩]⟩ W (RetD G H (fun _ v => v = .bool (N.follows x y))) := by
  refine enter Tryz.func187 rfl Tryz.ntmps187 (Nat.le_of_ble_eq_true rfl) hp (nx_seq (nx_region ?_))
  refine nx_op rfl (op_box rfl rfl (fun b4 => ?_))
  refine nx_op rfl (op_box rfl rfl (fun b5 => ?_))
  refine nv v_assign (nx_nil (nx_then (nx_seq (nx_region (nv v_move (nv v_load_o ?_))))))
  refine nx_op rfl (op_callS rfl rfl rfl (fun W hp => next_ok hp h x) ?_)
  refine nv v_move (nv (v_extract rfl rfl rfl) (nv (v_extract rfl rfl rfl) ?_))
  refine nx_op rfl (op_alloc rfl (fun b7 => ?_))
  refine st (k := nv v_assign (nx_nil (nx_then (nx_seq (nx_region (nv v_move (nv v_move ?_)))))))
  refine nx_guard (t := 16) rfl (fun g16 => ?_) (fun g16 => ?_)
  refine nr v_fieldAddr (nr v_load1_o (nr v_fieldAddr (nr v_load1_o (nr v_eql (nv v_pick_t (nv v_move ?_))))))
  refine nx_guard_dec (t := 23) rfl (fun g23 => ?_) (fun g23 => ?_)
  refine nr v_move (nr v_fieldAddr (nr v_load1_o (nr v_fieldAddr (nr v_load1_o ?_))))
  refine nx_op_run rfl rfl rfl (op_callD rfl rfl rfl (fun W hp => outs_ok hp h (N.after x).elem (N.after x).fin) (fun v29 G29 le29 ph29 => ?_))
  obtain ⟨A, c, rfl, hs⟩ := ph29
  refine nr v_makeFunc ?_
  refine nx_op_run rfl rfl rfl (op_callD rfl rfl rfl (fun W hp => containsFunc_Way hp hs (fun w => decide (w.out = y.fin)) (fst := []) (cap := [.pointer (some ⟨b5, 0, none⟩)]) (fun w _ => fun G' H' W' hl hs' hp' => RetS.toD (follows1_ok hp' (hs'.sublist.subset (List.mem_cons_of_mem _ (List.mem_cons_self))) w))) (fun v31 G31 le31 ph31 => ?_))
  subst ph31
  refine nv v_pick_t (nv v_assign (nx_nil (nx_then (nx_ret ?_))))
  exact nx_ret1 rfl (.tmp rfl) (rt ((Gh.le.trans le29 le31)) (by simp [NetD.follows, NetD.after, *]))
  refine nk (k := nk (k := nk (k := nk (k := nk (k := nk (k := nk (k := nk (k := nv v_pick_f (nv v_assign (nx_nil (nx_then ?_)))))))))))
  refine nx_ret ?_
  exact nx_ret1 rfl (.tmp rfl) (rt ((Gh.le.refl _)) (by simp [NetD.follows, NetD.after, *]))
  refine nk (k := nk (k := nk (k := nk (k := nk (k := nv v_pick_f (nv v_move (nk (k := nk (k := nk (k := nk (k := nk (k := ?_))))))))))))
  refine nk (k := nk (k := nk (k := nv v_pick_f (nv v_assign (nx_nil (nx_then (nx_ret ?_)))))))
  exact nx_ret1 rfl (.tmp rfl) (rt ((Gh.le.refl _)) (by simp [NetD.follows, NetD.after, *]))
def NetD.trailBad (N : NetD) (l : List Port) (i : Nat) (x : Port) : Bool :=
  !N.p.portOk x || (decide (N.p.kind x.elem = 4) && (decide (0 < (i : Int)) || decide ((i : Int) = (l.length : Int) - 1))) || (decide (0 < (i : Int)) && !N.follows ((l[i - 1]?).getD ⟨0, 0⟩) x)
def NetD.trailAll (N : NetD) (l : List Port) : List Port → Nat → Bool
  | [], _ => true
  | x :: r, i => if N.trailBad l i x then false else N.trailAll l r (i + 1)
def NetD.trailed (N : NetD) (b : Body) : Bool := N.trailAll b.trail b.trail 0 && decide (0 ≤ (b.trail.length : Int) - 1)
set_option maxRecDepth 20000 in
set_option maxHeartbeats 1000000 in
theorem trailed_ok {G : Gh} {H : List (Nat × Obj)} {W : World} (hp : Hp G H W) {g : Nat} {N : NetD} (h : NetAt G g N) {A1 : Option Addr} {n1 c1 : Nat} {b : Body} (bt : Body.At G A1 n1 c1 b) : Calls Tryz.prog 153 ⟨[.pointer (some ⟨g, 0, none⟩), .agg ⟨[.int .i64 b.mode, .slice A1 n1 c1, .int .i64 b.left, .int .i64 b.over, .int .i64 b.v]⟩]⟩ W (RetD G H (fun _ v => v = .bool (N.trailed b))) := by
  have hl := bt.h1.length
  have hr := Nat.le_trans bt.h1.cap bt.h1.room
  refine enter Tryz.func153 rfl Tryz.ntmps153 (Nat.le_of_ble_eq_true rfl) hp (nx_seq (nx_region ?_))
  refine nx_op rfl (op_box rfl rfl (fun b3 => ?_))
  refine nv v_assign (nx_nil (nx_then (nx_seq (nx_region (nv v_fieldAddr (nv v_load1_o (nv v_len (nv v_sub (nv v_assign (nx_nil (nx_then ?_)))))))))))
  refine nx_seq (nx_seq (nx_region (nv v_fieldAddr (nv v_load1_o (nv v_len (nv v_move (nx_nil (nx_then (nx_block ?_)))))))))
  refine nx_loop_v (σ := Nat × Gh) [0, 1, 3, 5, 8, 9, 10, 11, 12, 13, 14] (fun s => [(15, .int .i64 (s.1 : Int))]) (fun s => s.2) (fun _ => _) (fun s => G.le s.2 ∧ N.trailAll b.trail (b.trail.drop s.1) s.1 = N.trailAll b.trail b.trail 0) (fun s => n1 - s.1) (0, G) (.cons rfl (.cons rfl (.cons rfl (.cons rfl (.cons rfl (.cons rfl (.cons rfl (.cons rfl (.cons rfl (.cons rfl (.cons rfl (.nil)))))))))))) ⟨rfl, trivial⟩ ⟨Gh.le.refl _, rfl⟩ rfl rfl ?_
  rintro ⟨k, Gk⟩ ⟨le1, hI⟩ K next
  dsimp only at le1 hI ⊢
  refine nx_seq (nx_region (nv v_lss (nx_nil (nx_then (nx_seq ?_)))))
  refine nx_cond_dec rfl (fun c16 => ?_) (fun c16 => ?_)
  obtain ⟨x, rest, hd, hx⟩ := drop_of_lt (xs := b.trail) (k := k) (by omega)
  obtain ⟨xb, xo, xe, xk, xr, xf0, xf1⟩ := next_Port (bt.le le1).h1 hd
  cases xe
  rw [hd] at hI
  refine nx_skip (nx_then (nx_seq (nx_block (nx_seq (nx_region (nv v_move (nv (v_indexAddr_nat rfl rfl rfl (by omega)) (nv v_load_s ?_))))))))
  refine nx_op rfl (op_alloc rfl (fun b7 => ?_))
  refine nv v_assign (st (k := nx_nil (nx_then (nx_seq (dr_begin 36 (.q 0 (.q 1 (.l 2 (.q 3 (.q 4 (.q 5 (.q 6 (.q 7 (.l 8 (.q 9 (.q 10 (.q 11 (.q 12 (.q 13 (.q 14 (.q 15 (.q 16 (.q 17 (.q 18 (.q 19 (.q 20 (.q 21 (.q 22 (.q 23 (.q 24 (.q 25 (.q 26 (.q 27 (.q 28 (.q 29 (.q 30 (.q 31 (.l 32 (.q 33 (.q 34 (.q 35 .done)))))))))))))))))))))))))))))))))))) rfl (by kernel_rfl) (dr_q rfl rfl v_move ic (dr_q rfl rfl v_load_o ic (dr_l rfl rfl ?_))))))))
  refine op_callS rfl rfl rfl (fun W hp => bport_ok hp (h.le le1) x) ?_
  refine dr_k ic (dr_q rfl rfl v_not ic (dr_q rfl rfl v_move ic ?_))
  refine nx_guard (t := 24) rfl (fun g24 => ?_) (fun g24 => ?_)
  refine dk (k := dk (k := dk (k := dr_l_skip rfl rfl rfl rfl rfl rfl ic (dk (k := dk (k := dr_q_skip_u rfl rfl rfl rfl rfl rfl ic (dr_q_skip_u rfl rfl rfl rfl rfl rfl ic (dr_q_skip_u rfl rfl rfl rfl rfl rfl ic (dr_q_skip_u rfl rfl rfl rfl rfl rfl ic (dr_q_skip_u rfl rfl rfl rfl rfl rfl ic (dr_q_skip_u rfl rfl rfl rfl rfl rfl ic ?_)))))))))))
  refine dr_q_skip_u rfl rfl rfl rfl rfl rfl ic (dk (k := dr_q rfl rfl v_pick_t ic (dr_q rfl rfl v_move ic (dk (k := dk (k := dk (k := dr_q_skip_u rfl rfl rfl rfl rfl rfl ic (dr_q_skip_u rfl rfl rfl rfl rfl rfl ic (dr_q_skip_u rfl rfl rfl rfl rfl rfl ic (dr_q_skip_u rfl rfl rfl rfl rfl rfl ic (dr_q_skip_u rfl rfl rfl rfl rfl rfl ic ?_)))))))))))
  refine dr_q_skip_u rfl rfl rfl rfl rfl rfl ic (dr_q_skip_u rfl rfl rfl rfl rfl rfl ic (dr_q_skip_u rfl rfl rfl rfl rfl rfl ic (dr_l_skip_u rfl rfl rfl rfl rfl rfl ic (dr_q_skip_u rfl rfl rfl rfl rfl rfl ic (dk (k := dr_q rfl rfl v_pick_t ic (dr_end rfl ?_)))))))
  refine nx_nil (nx_np ?_)
  refine nx_then (nx_cond_t rfl ?_)
  have hbad : N.trailBad b.trail k x = true := by simp_all [NetD.trailBad]
  refine nx_seq (nx_region (nv v_assign (nx_nil (nx_then (nx_ret (nx_in_ret (nx_then_ret (nx_then_ret (nx_in_ret (nx_then_ret ?_))))))))))
  exact nx_ret1 rfl (.tmp rfl) (rt (le1) (by (unfold NetD.trailed; rw [← hI]; simp only [NetD.trailAll]; rw [hbad]; rfl)))
  refine dr_q_run rfl rfl rfl rfl v_move ic (dr_q_run rfl rfl rfl rfl v_fieldAddr ic (dr_q_run rfl rfl rfl rfl v_load1_o ic (dr_l_run rfl rfl rfl rfl ?_)))
  refine op_callS rfl rfl rfl (fun W hp => kind_ok hp (h.le le1) x.elem) ?_
  refine dr_k ic (dr_q_run rfl rfl rfl rfl v_eql ic (dr_q_run rfl rfl rfl rfl v_move ic ?_))
  refine nx_guard_dec (t := 30) rfl (fun g30 => ?_) (fun g30 => ?_)
  refine dr_q_run rfl rfl rfl rfl v_move ic (dr_q_run rfl rfl rfl rfl v_gtr ic (dr_q_run rfl rfl rfl rfl v_move ic ?_))
  refine nx_guard_dec (t := 33) rfl (fun g33 => ?_) (fun g33 => ?_)
  refine dk (k := dk (k := dk (k := dr_q_run rfl rfl rfl rfl v_pick_t ic (dr_q_run rfl rfl rfl rfl v_pick_t ic (dr_q rfl rfl v_pick_f ic (dr_q rfl rfl v_move ic (dk (k := dk (k := dk (k := dr_q_skip_u rfl rfl rfl rfl rfl rfl ic (dr_q_skip_u rfl rfl rfl rfl rfl rfl ic ?_)))))))))))
  refine dr_q_skip_u rfl rfl rfl rfl rfl rfl ic (dr_q_skip_u rfl rfl rfl rfl rfl rfl ic (dr_q_skip_u rfl rfl rfl rfl rfl rfl ic (dr_q_skip_u rfl rfl rfl rfl rfl rfl ic (dr_q_skip_u rfl rfl rfl rfl rfl rfl ic (dr_q_skip_u rfl rfl rfl rfl rfl rfl ic (dr_l_skip_u rfl rfl rfl rfl rfl rfl ic (dr_q_skip_u rfl rfl rfl rfl rfl rfl ic (dk (k := dr_q rfl rfl v_pick_t ic (dr_end rfl ?_))))))))))
  refine nx_nil (nx_np ?_)
  refine nx_then (nx_cond_t rfl ?_)
  have hbad : N.trailBad b.trail k x = true := by simp_all [NetD.trailBad]
  refine nx_seq (nx_region (nv v_assign (nx_nil (nx_then (nx_ret (nx_in_ret (nx_then_ret (nx_then_ret (nx_in_ret (nx_then_ret ?_))))))))))
  exact nx_ret1 rfl (.tmp rfl) (rt (le1) (by (unfold NetD.trailed; rw [← hI]; simp only [NetD.trailAll]; rw [hbad]; rfl)))
  refine dr_q_run rfl rfl rfl rfl v_move ic (dr_q_run rfl rfl rfl rfl v_move ic (dr_q_run rfl rfl rfl rfl v_eql ic (dr_q_run rfl rfl rfl rfl v_pick_f ic (dr_q_run rfl rfl rfl rfl v_pick_t ic (dr_q rfl rfl v_pick_f ic (dr_q rfl rfl v_move ic ?_))))))
  refine nx_guard_dec (t := 40) rfl (fun g40 => ?_) (fun g40 => ?_)
  refine dk (k := dk (k := dk (k := dr_q_skip_u rfl rfl rfl rfl rfl rfl ic (dr_q_skip_u rfl rfl rfl rfl rfl rfl ic (dr_q_skip_u rfl rfl rfl rfl rfl rfl ic (dr_q_skip_u rfl rfl rfl rfl rfl rfl ic (dr_q_skip_u rfl rfl rfl rfl rfl rfl ic (dr_q_skip_u rfl rfl rfl rfl rfl rfl ic (dr_q_skip_u rfl rfl rfl rfl rfl rfl ic (dr_q_skip_u rfl rfl rfl rfl rfl rfl ic (dr_l_skip_u rfl rfl rfl rfl rfl rfl ic ?_)))))))))))
  refine dr_q_skip_u rfl rfl rfl rfl rfl rfl ic (dk (k := dr_q rfl rfl v_pick_t ic (dr_end rfl ?_)))
  refine nx_nil (nx_np ?_)
  refine nx_then (nx_cond_t rfl ?_)
  have hbad : N.trailBad b.trail k x = true := by simp_all [NetD.trailBad]
  refine nx_seq (nx_region (nv v_assign (nx_nil (nx_then (nx_ret (nx_in_ret (nx_then_ret (nx_then_ret (nx_in_ret (nx_then_ret ?_))))))))))
  exact nx_ret1 rfl (.tmp rfl) (rt (le1) (by (unfold NetD.trailed; rw [← hI]; simp only [NetD.trailAll]; rw [hbad]; rfl)))
  refine dr_q_run rfl rfl rfl rfl v_move ic (dr_q_run rfl rfl rfl rfl v_gtr ic (dr_q_run rfl rfl rfl rfl v_move ic ?_))
  refine nx_guard_dec (t := 43) rfl (fun g43 => ?_) (fun g43 => ?_)
  obtain ⟨y, hy⟩ : ∃ y, b.trail[k - 1]? = some y := ⟨_, List.getElem?_eq_getElem (by omega)⟩
  obtain ⟨yb, yo, ye, yk, yf0, yf1⟩ := get_Port (bt.le le1).h1 hy
  cases ye
  refine dr_q_run rfl rfl rfl rfl v_move ic (dr_q_run rfl rfl rfl rfl v_fieldAddr ic (dr_q_run rfl rfl rfl rfl v_load1_o ic (dr_q_run rfl rfl rfl rfl v_move ic (dr_q_run rfl rfl rfl rfl v_sub ic ?_))))
  refine dr_q_run rfl rfl rfl rfl (v_indexAddr_nat (k := k - 1) rfl rfl (by rw [show ((k - 1 : Nat) : Int) = (k : Int) - 1 by omega]; rfl) (by omega)) ic ?_
  refine dr_q_run rfl rfl rfl rfl v_load_s ic (dr_q_run rfl rfl rfl rfl v_load_o ic (dr_l_run rfl rfl rfl rfl ?_))
  refine op_callD rfl rfl rfl (fun W hp => follows_ok hp (h.le le1) y x) (fun v52 G52 le52 ph52 => ?_)
  subst ph52
  refine dr_k (ic.le le52) (dr_q_run rfl rfl rfl rfl v_not (ic.le le52) (dr_q_run rfl rfl rfl rfl v_pick_t (ic.le le52) (dr_q rfl rfl v_pick_f (ic.le le52) (dr_end rfl ?_))))
  refine nx_nil (nx_np ?_)
  refine nx_then ?_
  refine nx_cond rfl (fun c55 => ?_) (fun c55 => ?_)
  have hbad : N.trailBad b.trail k x = true := by simp_all [NetD.trailBad]
  refine nx_seq (nx_region (nv v_assign (nx_nil (nx_then (nx_ret (nx_in_ret (nx_then_ret (nx_then_ret (nx_in_ret (nx_then_ret ?_))))))))))
  exact nx_ret1 rfl (.tmp rfl) (rt ((Gh.le.trans le1 le52)) (by (unfold NetD.trailed; rw [← hI]; simp only [NetD.trailAll]; rw [hbad]; rfl)))
  have hok : N.trailBad b.trail k x = false := by simp_all [NetD.trailBad]
  refine nx_skip (nx_in _ (nx_then (nx_region (nv v_add (nv v_move (nx_nil (nx_then ?_)))))))
  exact nn (next (k + 1, _) ⟨(Gh.le.trans le1 le52), (by rw [xr, ← hI]; simp only [NetD.trailAll]; rw [hok]; rfl)⟩ (by dsimp only; omega))
  refine dk (k := dk (k := dk (k := dk (k := dk (k := dk (k := dk (k := dk (k := dr_l_skip rfl rfl rfl rfl rfl rfl ic (dk (k := dr_q_run rfl rfl rfl rfl v_pick_f ic (dr_q rfl rfl v_pick_f ic ?_)))))))))))
  refine dr_end rfl ?_
  refine nx_nil (nx_np ?_)
  refine nx_then (nx_cond_f rfl ?_)
  have hok : N.trailBad b.trail k x = false := by simp_all [NetD.trailBad]
  refine nx_skip (nx_in _ (nx_then (nx_region (nv v_add (nv v_move (nx_nil (nx_then ?_)))))))
  exact nn (next (k + 1, _) ⟨le1, (by rw [xr, ← hI]; simp only [NetD.trailAll]; rw [hok]; rfl)⟩ (by dsimp only; omega))
  refine dk (k := dk (k := dk (k := dr_q_skip_u rfl rfl rfl rfl rfl rfl ic (dr_q_skip_u rfl rfl rfl rfl rfl rfl ic (dr_q_skip_u rfl rfl rfl rfl rfl rfl ic (dk (k := dr_q_run rfl rfl rfl rfl v_pick_f ic (dr_q rfl rfl v_pick_f ic (dr_q rfl rfl v_move ic (dr_q_run rfl rfl rfl rfl v_move ic (dr_q_run rfl rfl rfl rfl v_gtr ic ?_)))))))))))
  refine dr_q_run rfl rfl rfl rfl v_move ic ?_
  refine nx_guard_dec (t := 43) rfl (fun g43 => ?_) (fun g43 => ?_)
  obtain ⟨y, hy⟩ : ∃ y, b.trail[k - 1]? = some y := ⟨_, List.getElem?_eq_getElem (by omega)⟩
  obtain ⟨yb, yo, ye, yk, yf0, yf1⟩ := get_Port (bt.le le1).h1 hy
  cases ye
  refine dr_q_run rfl rfl rfl rfl v_move ic (dr_q_run rfl rfl rfl rfl v_fieldAddr ic (dr_q_run rfl rfl rfl rfl v_load1_o ic (dr_q_run rfl rfl rfl rfl v_move ic (dr_q_run rfl rfl rfl rfl v_sub ic ?_))))
  refine dr_q_run rfl rfl rfl rfl (v_indexAddr_nat (k := k - 1) rfl rfl (by rw [show ((k - 1 : Nat) : Int) = (k : Int) - 1 by omega]; rfl) (by omega)) ic ?_
  refine dr_q_run rfl rfl rfl rfl v_load_s ic (dr_q_run rfl rfl rfl rfl v_load_o ic (dr_l_run rfl rfl rfl rfl ?_))
  refine op_callD rfl rfl rfl (fun W hp => follows_ok hp (h.le le1) y x) (fun v52 G52 le52 ph52 => ?_)
  subst ph52
  refine dr_k (ic.le le52) (dr_q_run rfl rfl rfl rfl v_not (ic.le le52) (dr_q_run rfl rfl rfl rfl v_pick_t (ic.le le52) (dr_q rfl rfl v_pick_f (ic.le le52) (dr_end rfl ?_))))
  refine nx_nil (nx_np ?_)
  refine nx_then ?_
  refine nx_cond rfl (fun c55 => ?_) (fun c55 => ?_)
  have hbad : N.trailBad b.trail k x = true := by simp_all [NetD.trailBad]
  refine nx_seq (nx_region (nv v_assign (nx_nil (nx_then (nx_ret (nx_in_ret (nx_then_ret (nx_then_ret (nx_in_ret (nx_then_ret ?_))))))))))
  exact nx_ret1 rfl (.tmp rfl) (rt ((Gh.le.trans le1 le52)) (by (unfold NetD.trailed; rw [← hI]; simp only [NetD.trailAll]; rw [hbad]; rfl)))
  have hok : N.trailBad b.trail k x = false := by simp_all [NetD.trailBad]
  refine nx_skip (nx_in _ (nx_then (nx_region (nv v_add (nv v_move (nx_nil (nx_then ?_)))))))
  exact nn (next (k + 1, _) ⟨(Gh.le.trans le1 le52), (by rw [xr, ← hI]; simp only [NetD.trailAll]; rw [hok]; rfl)⟩ (by dsimp only; omega))
  refine dk (k := dk (k := dk (k := dk (k := dk (k := dk (k := dk (k := dk (k := dr_l_skip rfl rfl rfl rfl rfl rfl ic (dk (k := dr_q_run rfl rfl rfl rfl v_pick_f ic (dr_q rfl rfl v_pick_f ic ?_)))))))))))
  refine dr_end rfl ?_
  refine nx_nil (nx_np ?_)
  refine nx_then (nx_cond_f rfl ?_)
  have hok : N.trailBad b.trail k x = false := by simp_all [NetD.trailBad]
  refine nx_skip (nx_in _ (nx_then (nx_region (nv v_add (nv v_move (nx_nil (nx_then ?_)))))))
  exact nn (next (k + 1, _) ⟨le1, (by rw [xr, ← hI]; simp only [NetD.trailAll]; rw [hok]; rfl)⟩ (by dsimp only; omega))
  refine nx_exit (nx_then_exit (nx_then_exit (nx_in_eq (nx_then (nx_seq (nx_region (nv v_move (nv v_geq (nv v_assign (nx_nil (nx_then ?_)))))))))))
  refine nx_ret ?_
  exact nx_ret1 rfl (.tmp rfl) (rt (le1) (by (unfold NetD.trailed; rw [← hI, List.drop_eq_nil_of_le (by omega), hl]; rfl)))
end Go.Proofs.YtjckojnlapchoaaGreat
open Go Go.RowKit
namespace Go.Proofs.YtjckojnlapchoaaGreat
open Go.Proofs
theorem Plan.length_range {p : Plan} (h : numbersOk p = true) (e : Int) : 0 ≤ p.length e ∧ p.length e ≤ 4000 := by
  simp only [numbersOk, Bool.and_eq_true] at h
  have hall := List.all_eq_true.1 h.1.1.2
  unfold Plan.length Plan.elem
  split
  · simp [noElem]
  · cases hx : p.elems[e.toNat]? with
    | none => simp [noElem]
    | some x =>
      have := hall x (List.mem_of_getElem? hx)
      simp only [elemOk, Bool.and_eq_true] at this
      have h3 := this.2
      simp only [Option.getD_some]
      split at h3
      · simp at h3; omega
      · simp at h3; omega
def NetD.goes (N : NetD) (len : Int) (b : Body) : Bool :=
  if decide (b.left < 0) || decide (N.p.length (b.head.getD ⟨0, 0⟩).elem ≤ b.left) || decide (b.v < 0) || decide (60 < b.v) || decide (b.over < 0) || decide (len ≤ b.over) then false
  else decide (b.over = 0) || (decide (b.left = 0) && N.gateAt (b.head.getD ⟨0, 0⟩))
set_option maxRecDepth 20000 in
set_option maxHeartbeats 1000000 in
theorem goes_ok {G : Gh} {H : List (Nat × Obj)} {W : World} (hp : Hp G H W) {g : Nat} {N : NetD} (h : NetAt G g N) {A1 : Option Addr} {n1 c1 : Nat} {b : Body} (bt : Body.At G A1 n1 c1 b) (len : Int) (hne : b.trail ≠ []) : Calls Tryz.prog 154 ⟨[.pointer (some ⟨g, 0, none⟩), .int .i64 len, .agg ⟨[.int .i64 b.mode, .slice A1 n1 c1, .int .i64 b.left, .int .i64 b.over, .int .i64 b.v]⟩]⟩ W (RetS G H (.bool (N.goes len b))) := by
  have hl := bt.h1.length
  have hr := Nat.le_trans bt.h1.cap bt.h1.room
  have hpos : 0 < b.trail.length := List.length_pos_iff.2 hne
  obtain ⟨x, hx⟩ : ∃ x, b.trail[n1 - 1]? = some x := ⟨_, List.getElem?_eq_getElem (by omega)⟩
  obtain ⟨xb, xo, xe, xk, xf0, xf1⟩ := get_Port bt.h1 hx
  cases xe
  have hh : b.head = some x := by unfold Body.head; rw [List.getLast?_eq_getElem?, hl]; exact hx
  refine enter Tryz.func154 rfl Tryz.ntmps154 (Nat.le_of_ble_eq_true rfl) hp (nx_seq (nx_region ?_))
  refine nx_op rfl (op_box rfl rfl (fun b5 => ?_))
  refine nv v_assign (nx_nil (nx_then (nx_seq (nx_region (nv v_fieldAddr (nv v_load1_o (nv v_fieldAddr (nv v_load1_o (nv v_len (nv v_sub ?_))))))))))
  refine nv (v_indexAddr_nat (k := n1 - 1) rfl rfl (by rw [show ((n1 - 1 : Nat) : Int) = (n1 : Int) - 1 by omega]; rfl) (by omega)) ?_
  refine nv v_load_s ?_
  refine nx_op rfl (op_alloc rfl (fun b7 => ?_))
  refine st (k := nx_nil (nx_then (nx_seq (nx_seq (dr_begin 33 (.q 0 (.q 1 (.q 2 (.q 3 (.q 4 (.q 5 (.q 6 (.q 7 (.q 8 (.l 9 (.q 10 (.q 11 (.q 12 (.q 13 (.q 14 (.q 15 (.q 16 (.q 17 (.q 18 (.q 19 (.q 20 (.q 21 (.q 22 (.q 23 (.q 24 (.q 25 (.q 26 (.q 27 (.q 28 (.q 29 (.q 30 (.q 31 (.q 32 .done))))))))))))))))))))))))))))))))) rfl (by kernel_rfl) (dr_q rfl rfl v_fieldAddr ic (dr_q rfl rfl v_load1_o ic (dr_q rfl rfl v_lss ic (dr_q rfl rfl v_move ic ?_)))))))))
  refine nx_guard_dec (t := 19) rfl (fun g19 => ?_) (fun g19 => ?_)
  refine dk (k := dk (k := dk (k := dk (k := dk (k := dr_l_skip rfl rfl rfl rfl rfl rfl ic (dk (k := dr_q rfl rfl v_pick_t ic (dr_q rfl rfl v_move ic (dk (k := dk (k := dk (k := ?_))))))))))))
  refine dr_q rfl rfl v_pick_t ic (dr_q rfl rfl v_move ic (dk (k := dk (k := dk (k := dr_q rfl rfl v_pick_t ic (dr_q rfl rfl v_move ic (dk (k := dk (k := dk (k := dr_q rfl rfl v_pick_t ic (dr_q rfl rfl v_move ic ?_)))))))))))
  refine dk (k := dk (k := dk (k := dk (k := dr_q rfl rfl v_pick_t ic (dr_end rfl ?_)))))
  refine nx_nil (nx_np ?_)
  refine nx_then (nx_cond_t rfl ?_)
  have hno : N.goes len b = false := by unfold NetD.goes; rw [hh]; exact if_pos (by simp_all)
  refine nx_seq (nx_region (nv v_assign (nx_nil (nx_then (nx_ret (nx_then_ret ?_))))))
  exact nx_ret1 rfl (.tmp rfl) (rs (by (rw [hno]; done)))
  refine dr_q_run rfl rfl rfl rfl v_fieldAddr ic (dr_q_run rfl rfl rfl rfl v_load1_o ic (dr_q_run rfl rfl rfl rfl v_move ic (dr_q_run rfl rfl rfl rfl v_fieldAddr ic (dr_q_run rfl rfl rfl rfl v_load1_o ic (dr_l_run rfl rfl rfl rfl ?_)))))
  refine op_callS rfl rfl rfl (fun W hp => length_ok hp h x.elem) ?_
  refine dr_k ic (dr_q_run rfl rfl rfl rfl v_geq ic (dr_q rfl rfl v_pick_f ic (dr_q rfl rfl v_move ic ?_)))
  refine nx_guard_dec (t := 28) rfl (fun g28 => ?_) (fun g28 => ?_)
  refine dk (k := dk (k := dk (k := dr_q rfl rfl v_pick_t ic (dr_q rfl rfl v_move ic (dk (k := dk (k := dk (k := dr_q rfl rfl v_pick_t ic (dr_q rfl rfl v_move ic (dk (k := dk (k := ?_))))))))))))
  refine dk (k := dr_q rfl rfl v_pick_t ic (dr_q rfl rfl v_move ic (dk (k := dk (k := dk (k := dk (k := dr_q rfl rfl v_pick_t ic (dr_end rfl ?_))))))))
  refine nx_nil (nx_np ?_)
  refine nx_then (nx_cond_t rfl ?_)
  have hno : N.goes len b = false := by unfold NetD.goes; rw [hh]; exact if_pos (by simp_all)
  refine nx_seq (nx_region (nv v_assign (nx_nil (nx_then (nx_ret (nx_then_ret ?_))))))
  exact nx_ret1 rfl (.tmp rfl) (rs (by (rw [hno]; done)))
  refine dr_q_run rfl rfl rfl rfl v_fieldAddr ic (dr_q_run rfl rfl rfl rfl v_load1_o ic (dr_q_run rfl rfl rfl rfl v_lss ic (dr_q rfl rfl v_pick_f ic (dr_q rfl rfl v_move ic ?_))))
  refine nx_guard_dec (t := 33) rfl (fun g33 => ?_) (fun g33 => ?_)
  refine dk (k := dk (k := dk (k := dr_q rfl rfl v_pick_t ic (dr_q rfl rfl v_move ic (dk (k := dk (k := dk (k := dr_q rfl rfl v_pick_t ic (dr_q rfl rfl v_move ic (dk (k := dk (k := ?_))))))))))))
  refine dk (k := dk (k := dr_q rfl rfl v_pick_t ic (dr_end rfl ?_)))
  refine nx_nil (nx_np ?_)
  refine nx_then (nx_cond_t rfl ?_)
  have hno : N.goes len b = false := by unfold NetD.goes; rw [hh]; exact if_pos (by simp_all)
  refine nx_seq (nx_region (nv v_assign (nx_nil (nx_then (nx_ret (nx_then_ret ?_))))))
  exact nx_ret1 rfl (.tmp rfl) (rs (by (rw [hno]; done)))
  refine dr_q_run rfl rfl rfl rfl v_fieldAddr ic (dr_q_run rfl rfl rfl rfl v_load1_o ic (dr_q_run rfl rfl rfl rfl v_gtr ic (dr_q rfl rfl v_pick_f ic (dr_q rfl rfl v_move ic ?_))))
  refine nx_guard_dec (t := 38) rfl (fun g38 => ?_) (fun g38 => ?_)
  refine dk (k := dk (k := dk (k := dr_q rfl rfl v_pick_t ic (dr_q rfl rfl v_move ic (dk (k := dk (k := dk (k := dk (k := dr_q rfl rfl v_pick_t ic (dr_end rfl ?_))))))))))
  refine nx_nil (nx_np ?_)
  refine nx_then (nx_cond_t rfl ?_)
  have hno : N.goes len b = false := by unfold NetD.goes; rw [hh]; exact if_pos (by simp_all)
  refine nx_seq (nx_region (nv v_assign (nx_nil (nx_then (nx_ret (nx_then_ret ?_))))))
  exact nx_ret1 rfl (.tmp rfl) (rs (by (rw [hno]; done)))
  refine dr_q_run rfl rfl rfl rfl v_fieldAddr ic (dr_q_run rfl rfl rfl rfl v_load1_o ic (dr_q_run rfl rfl rfl rfl v_lss ic (dr_q rfl rfl v_pick_f ic (dr_q rfl rfl v_move ic ?_))))
  refine nx_guard_dec (t := 43) rfl (fun g43 => ?_) (fun g43 => ?_)
  refine dk (k := dk (k := dk (k := dk (k := dr_q rfl rfl v_pick_t ic (dr_end rfl ?_)))))
  refine nx_nil (nx_np ?_)
  refine nx_then (nx_cond_t rfl ?_)
  have hno : N.goes len b = false := by unfold NetD.goes; rw [hh]; exact if_pos (by simp_all)
  refine nx_seq (nx_region (nv v_assign (nx_nil (nx_then (nx_ret (nx_then_ret ?_))))))
  exact nx_ret1 rfl (.tmp rfl) (rs (by (rw [hno]; done)))
  refine dr_q_run rfl rfl rfl rfl v_fieldAddr ic (dr_q_run rfl rfl rfl rfl v_load1_o ic (dr_q_run rfl rfl rfl rfl v_move ic (dr_q_run rfl rfl rfl rfl v_geq ic (dr_q rfl rfl v_pick_f ic (dr_end rfl ?_)))))
  refine nx_nil (nx_np ?_)
  refine nx_then ?_
  refine nx_cond_dec rfl (fun c48 => ?_) (fun c48 => ?_)
  have hno : N.goes len b = false := by unfold NetD.goes; rw [hh]; exact if_pos (by simp_all)
  refine nx_seq (nx_region (nv v_assign (nx_nil (nx_then (nx_ret (nx_then_ret ?_))))))
  exact nx_ret1 rfl (.tmp rfl) (rs (by (rw [hno]; done)))
  have hyes : N.goes len b = (decide (b.over = 0) || (decide (b.left = 0) && N.gateAt x)) := by unfold NetD.goes; rw [hh]; exact if_neg (by simp only [Option.getD_some, Bool.or_eq_true, decide_eq_true_eq]; omega)
  refine nx_skip (nx_then (nx_seq (nx_region (nv v_fieldAddr (nv v_load1_o (nv v_eql (nv v_move ?_)))))))
  refine nx_guard_dec (t := 52) rfl (fun g52 => ?_) (fun g52 => ?_)
  refine nk (k := nk (k := nk (k := nk (k := nu (k := nu (k := nu (k := nk (k := nv v_pick_t (nv v_assign (nx_nil (nx_then ?_)))))))))))
  refine nx_ret ?_
  exact nx_ret1 rfl (.tmp rfl) (rs (by (rw [hyes]; simp [*]; done)))
  refine nr v_fieldAddr (nr v_load1_o (nr v_eql (nr v_move ?_)))
  refine nx_guard_dec (t := 56) rfl (fun g56 => ?_) (fun g56 => ?_)
  refine nr v_move (nr v_load_o ?_)
  refine nx_op_run rfl rfl rfl (op_callS rfl rfl rfl (fun W hp => bgate_ok hp h x) ?_)
  refine nr v_pick_t (nv v_pick_f (nv v_assign (nx_nil (nx_then (nx_ret ?_)))))
  exact nx_ret1 rfl (.tmp rfl) (rs (by (rw [hyes]; simp [*]; done)))
  refine nk (k := nk (k := nk (k := nr v_pick_f (nv v_pick_f (nv v_assign (nx_nil (nx_then (nx_ret ?_))))))))
  exact nx_ret1 rfl (.tmp rfl) (rs (by (rw [hyes]; simp [*]; done)))
def NetD.liesL (N : NetD) (l : List Port) : Nat → Int → Int → Int × Int
  | 0, left, behind => (left, behind)
  | i + 1, left, behind => N.liesL l i (left - (N.p.length ((l[i + 1]?).getD ⟨0, 0⟩).elem - behind)) 0
def NetD.lies (N : NetD) (len : Int) (b : Body) : Bool :=
  let q := N.liesL b.trail (b.trail.length - 1) (len - b.over) b.left
  let f := ((b.trail[0]?).getD (⟨0, 0⟩ : Port)).elem
  decide (1 ≤ q.1) && (decide (N.p.kind f = 4) || decide (q.1 ≤ N.p.length f - q.2))
set_option maxRecDepth 20000 in
set_option maxHeartbeats 1000000 in
theorem lies_ok {G : Gh} {H : List (Nat × Obj)} {W : World} (hp : Hp G H W) {g : Nat} {N : NetD} (h : NetAt G g N) {A1 : Option Addr} {n1 c1 : Nat} {b : Body} (bt : Body.At G A1 n1 c1 b) (len : Int) (hne : b.trail ≠ []) (hnum : numbersOk N.p = true) (hn : n1 ≤ 1000000) (hlen : 1 ≤ len ∧ len ≤ 4000) (hov : 0 ≤ b.over ∧ b.over ≤ 4000) (hle : 0 ≤ b.left ∧ b.left ≤ 4000) : Calls Tryz.prog 155 ⟨[.pointer (some ⟨g, 0, none⟩), .int .i64 len, .agg ⟨[.int .i64 b.mode, .slice A1 n1 c1, .int .i64 b.left, .int .i64 b.over, .int .i64 b.v]⟩]⟩ W (RetS G H (.bool (N.lies len b))) := by
  have hl := bt.h1.length
  have hpos : 0 < b.trail.length := List.length_pos_iff.2 hne
  obtain ⟨x, hx⟩ : ∃ x, b.trail[0]? = some x := ⟨_, List.getElem?_eq_getElem (by omega)⟩
  obtain ⟨xb, xo, xe, xk, xf0, xf1⟩ := get_Port bt.h1 hx
  cases xe
  have hrx := Plan.length_range hnum x.elem
  refine enter Tryz.func155 rfl Tryz.ntmps155 (Nat.le_of_ble_eq_true rfl) hp (nx_seq (nx_region ?_))
  refine nx_op rfl (op_box rfl rfl (fun b5 => ?_))
  refine nv v_assign (nx_nil (nx_then (nx_seq (dr_begin 8 (.q 0 (.q 1 (.q 2 (.q 3 (.q 4 (.q 5 (.q 6 (.q 7 .done)))))))) rfl (by kernel_rfl) (dr_q rfl rfl v_move ic (dr_q rfl rfl v_fieldAddr ic (dr_q rfl rfl v_load1_o ic (dr_q rfl rfl v_sub ic (dr_q rfl rfl v_fieldAddr ic (dr_q rfl rfl v_load1_o ic (dr_q rfl rfl v_assign ic ?_)))))))))))
  refine dr_q rfl rfl v_assign ic (dr_end rfl ?_)
  refine nx_nil (nx_np ?_)
  refine nx_then (nx_seq (nx_seq (nx_region (nv v_fieldAddr (nv v_load1_o (nv v_len (nv v_sub (nv v_assign (nx_nil (nx_then (nx_block ?_)))))))))))
  refine nx_loop_v (σ := Nat × Int × Int) [0, 1, 2, 5, 6, 11, 12, 13, 14, 15, 16, 17, 18, 19, 20] (fun s => [(9, .int .i64 (s.1 : Int)), (7, .int .i64 s.2.1), (8, .int .i64 s.2.2)]) (fun _ => G) (fun _ => _) (fun s => s.1 < n1 ∧ N.liesL b.trail s.1 s.2.1 s.2.2 = N.liesL b.trail (b.trail.length - 1) (len - b.over) b.left ∧ (0 ≤ s.2.2 ∧ s.2.2 ≤ 4000) ∧ s.2.1 ≤ 8000 + 4000 * ((n1 : Int) - s.1) ∧ -8000 - 4000 * ((n1 : Int) - s.1) ≤ s.2.1) (fun s => s.1) (n1 - 1, len - b.over, b.left) (.cons rfl (.cons rfl (.cons rfl (.cons rfl (.cons rfl (.cons rfl (.cons rfl (.cons rfl (.cons rfl (.cons rfl (.cons rfl (.cons rfl (.cons rfl (.cons rfl (.cons rfl (.nil)))))))))))))))) ⟨(by rw [show ((n1 - 1 : Nat) : Int) = (n1 : Int) - 1 by omega]; rfl), rfl, rfl, trivial⟩ ⟨by omega, by rw [hl], by omega, by dsimp only; omega, by dsimp only; omega⟩ rfl rfl ?_
  rintro ⟨i, lf, bh⟩ ⟨hi, hI, hbh, hu, hd⟩ K next
  dsimp only at hi hI hbh hu hd ⊢
  refine nx_seq (nx_seq (nx_region (nv v_move (nv v_gtr (nx_nil (nx_then ?_))))))
  refine nx_cond_dec rfl (fun c22 => ?_) (fun c22 => ?_)
  obtain ⟨j, rfl⟩ : ∃ j, i = j + 1 := ⟨i - 1, by omega⟩
  obtain ⟨y, hy⟩ : ∃ y, b.trail[j + 1]? = some y := ⟨_, List.getElem?_eq_getElem (by omega)⟩
  obtain ⟨yb, yo, ye, yk, yf0, yf1⟩ := get_Port bt.h1 hy
  cases ye
  have hry := Plan.length_range hnum y.elem
  refine nx_skip (nx_then (nx_seq (nx_block (nx_seq (nx_region (nv v_move (nv v_move (nv v_fieldAddr (nv v_load1_o (nv v_move (nv (v_indexAddr_nat (k := j + 1) rfl rfl rfl (by omega)) ?_)))))))))))
  refine nv v_fieldAddr (nv v_load1_s ?_)
  refine nx_op rfl (op_callS rfl rfl rfl (fun W hp => length_ok hp h y.elem) ?_)
  refine nv v_move (nv v_sub (nv v_sub (nv v_assign (nx_nil (nx_then (nx_region (nv v_assign (nx_nil (nx_in _ (nx_then (nx_region ?_)))))))))))
  refine nv v_move (nv v_sub (nv v_assign (nx_nil (nx_then ?_))))
  refine nx_next (next (j, lf - (N.p.length y.elem - bh), 0) ⟨by dsimp only; omega, (by rw [← hI]; simp only [NetD.liesL]; rw [hy]; rfl), by dsimp only; omega, by dsimp only; omega, by dsimp only; omega⟩ (by dsimp only; omega)) ?_ (by repeat (first | exact Suf.refl | apply Suf.keep | apply Suf.cons | apply Suf.keepN | apply Suf.app))
  exact ⟨(by show some (Value.int .i64 (((j + 1 : Nat) : Int) - 1)) = _; rw [show (((j + 1 : Nat) : Int) - 1) = (j : Int) by omega]), (by repeat (first | exact trivial | refine ⟨rfl, ?_⟩))⟩
  obtain rfl : i = 0 := by omega
  have hq : N.liesL b.trail (b.trail.length - 1) (len - b.over) b.left = (lf, bh) := hI.symm
  have hres : N.lies len b = (decide (1 ≤ lf) && (decide (N.p.kind x.elem = 4) || decide (lf ≤ N.p.length x.elem - bh))) := by
    unfold NetD.lies; rw [hq, hx]; rfl
  refine nx_exit (nx_then_exit (nx_then_exit (nx_in_eq (nx_then (nx_seq (nx_region (nv v_fieldAddr (nv v_load1_o (nv (v_indexAddr_nat (k := 0) rfl rfl rfl (by omega)) (nv v_fieldAddr (nv v_load1_s ?_)))))))))))
  refine nv v_assign (nx_nil (nx_then (nx_seq (nx_region (nv v_move (nv v_geq (nv v_move ?_)))))))
  refine nx_guard_dec (t := 44) rfl (fun g44 => ?_) (fun g44 => ?_)
  refine nr v_move (nr v_move ?_)
  refine nx_op_run rfl rfl rfl (op_callS rfl rfl rfl (fun W hp => kind_ok hp h x.elem) ?_)
  refine nr v_eql (nr v_move ?_)
  refine nx_guard_dec (t := 49) rfl (fun g49 => ?_) (fun g49 => ?_)
  refine nk (k := nk (k := nk (k := nk (k := nk (k := nk (k := nk (k := nr v_pick_t (nv v_pick_t (nv v_assign (nx_nil (nx_then ?_)))))))))))
  refine nx_ret ?_
  exact nx_ret1 rfl (.tmp rfl) (rs (by rw [hres]; simp [*]))
  refine nr v_move (nr v_move (nr v_move ?_))
  refine nx_op_run rfl rfl rfl (op_callS rfl rfl rfl (fun W hp => length_ok hp h x.elem) ?_)
  refine nr v_move (nr v_sub (nr v_leq (nr v_pick_f (nv v_pick_t (nv v_assign (nx_nil (nx_then (nx_ret ?_))))))))
  exact nx_ret1 rfl (.tmp rfl) (rs (by rw [hres]; simp [*]))
  refine nk (k := nk (k := nk (k := nk (k := nk (k := nu (k := nu (k := nu (k := nu (k := nu (k := nu (k := nu (k := ?_))))))))))))
  refine nk (k := nv v_pick_f (nv v_assign (nx_nil (nx_then (nx_ret ?_)))))
  exact nx_ret1 rfl (.tmp rfl) (rs (by rw [hres]; simp [*]))
theorem trailed_ne {N : NetD} {b : Body} (h : N.trailed b = true) : b.trail ≠ [] := by
  simp only [NetD.trailed, Bool.and_eq_true, decide_eq_true_eq] at h
  intro e; rw [e] at h; simp at h
theorem goes_range {N : NetD} {len : Int} {b : Body} (hnum : numbersOk N.p = true) (h : N.goes len b = true) : 0 ≤ b.over ∧ b.over < len ∧ 0 ≤ b.left ∧ b.left ≤ 4000 := by
  unfold NetD.goes at h
  split at h
  · cases h
  · rename_i hc
    simp only [Bool.or_eq_true, decide_eq_true_eq] at hc
    have := Plan.length_range hnum (b.head.getD ⟨0, 0⟩).elem
    omega
theorem rests_zero {b : Body} (h : b.rests = true) : b.left = 0 ∧ b.over = 0 ∧ b.v = 0 := by
  simp only [Body.rests, Bool.and_eq_true, decide_eq_true_eq] at h
  omega
def NetD.mayB (N : NetD) (len : Int) (b : Body) : Bool :=
  if len < 1 ∨ 4000 < len then false
  else if b.mode = 1 then waitsOk N.p b
  else if b.mode = 3 then decide ((b.trail.length : Int) = 0) && b.rests
  else if b.mode = 2 then N.trailed b && N.goes len b && N.lies len b
  else if b.mode = 4 then N.trailed b && b.rests && N.lies len b
  else false
set_option maxRecDepth 20000 in
set_option maxHeartbeats 1000000 in
theorem mayB_ok {G : Gh} {H : List (Nat × Obj)} {W : World} (hp : Hp G H W) {g : Nat} {N : NetD} (h : NetAt G g N) {A1 : Option Addr} {n1 c1 : Nat} {b : Body} (bt : Body.At G A1 n1 c1 b) (len : Int) (hnum : numbersOk N.p = true) (hn : n1 ≤ 1000000) : Calls Tryz.prog 93 ⟨[.pointer (some ⟨g, 0, none⟩), .int .i64 len, .agg ⟨[.int .i64 b.mode, .slice A1 n1 c1, .int .i64 b.left, .int .i64 b.over, .int .i64 b.v]⟩]⟩ W (RetD G H (fun _ v => v = .bool (N.mayB len b))) := by
  have hl := bt.h1.length
  refine enter Tryz.func93 rfl Tryz.ntmps93 (Nat.le_of_ble_eq_true rfl) hp (nx_seq (nx_region ?_))
  refine nx_op rfl (op_box rfl rfl (fun b5 => ?_))
  refine nv v_assign (nx_nil (nx_then (nx_seq (nx_seq (nx_region (nv v_move (nv v_lss (nv v_move ?_))))))))
  refine nx_guard_dec (t := 9) rfl (fun g9 => ?_) (fun g9 => ?_)
  refine nk (k := nk (k := nv v_pick_t (nx_nil (nx_then (nx_cond_t rfl ?_)))))
  have hno : N.mayB len b = false := if_pos (by omega)
  refine nx_seq (nx_region (nv v_assign (nx_nil (nx_then (nx_ret (nx_then_ret ?_))))))
  exact nx_ret1 rfl (.tmp rfl) (rt ((Gh.le.refl _)) (by (rw [hno]; done)))
  refine nr v_move (nr v_gtr (nv v_pick_f (nx_nil (nx_then ?_))))
  refine nx_cond_dec rfl (fun c12 => ?_) (fun c12 => ?_)
  have hno : N.mayB len b = false := if_pos (by omega)
  refine nx_seq (nx_region (nv v_assign (nx_nil (nx_then (nx_ret (nx_then_ret ?_))))))
  exact nx_ret1 rfl (.tmp rfl) (rt ((Gh.le.refl _)) (by (rw [hno]; done)))
  have hr : ¬ (len < 1 ∨ 4000 < len) := by omega
  refine nx_skip (nx_then (nx_seq (nx_seq (nx_region (nv v_fieldAddr (nv v_load1_o (nx_nil (nx_then (nx_block (nx_seq (nx_region ?_)))))))))))
  refine nv v_eql (nv v_assign (nx_nil (nx_then ?_)))
  refine nx_cond_dec rfl (fun c15 => ?_) (fun c15 => ?_)
  refine nx_seq (nx_region (nv v_move (nv v_load_o ?_)))
  refine nx_op rfl (op_callS rfl rfl rfl (fun W hp => waits_ok hp h bt) ?_)
  refine nv v_assign (nx_nil (nx_then (nx_ret (nx_in_ret (nx_then_ret ?_)))))
  exact nx_ret1 rfl (.tmp rfl) (rt ((Gh.le.refl _)) (by (unfold NetD.mayB; rw [if_neg hr]; simp [*]; done)))
  refine nx_seq (nx_region (nv v_eql (nv v_assign (nx_nil (nx_then ?_)))))
  refine nx_cond_dec rfl (fun c20 => ?_) (fun c20 => ?_)
  refine nx_seq (nx_region (nv v_fieldAddr (nv v_load1_o (nv v_len (nv v_eql (nv v_move ?_))))))
  refine nx_guard_dec (t := 26) rfl (fun g26 => ?_) (fun g26 => ?_)
  refine nr v_load_o ?_
  refine nx_op_run rfl rfl rfl (op_callS rfl rfl rfl (fun W hp => rests_ok hp b) ?_)
  refine nv v_pick_t (nv v_assign (nx_nil (nx_then (nx_ret (nx_in_ret (nx_then_ret ?_))))))
  exact nx_ret1 rfl (.tmp rfl) (rt ((Gh.le.refl _)) (by (unfold NetD.mayB; rw [if_neg hr]; simp [*]; done)))
  refine nk (k := nk (k := nv v_pick_f (nv v_assign (nx_nil (nx_then (nx_ret (nx_in_ret (nx_then_ret ?_))))))))
  exact nx_ret1 rfl (.tmp rfl) (rt ((Gh.le.refl _)) (by (unfold NetD.mayB; rw [if_neg hr]; simp [*]; intro h0; omega)))
  refine nx_seq (nx_region (nv v_eql (nv v_assign (nx_nil (nx_then ?_)))))
  refine nx_cond_dec rfl (fun c30 => ?_) (fun c30 => ?_)
  refine nx_seq (nx_region (nv v_move (nv v_load_o ?_)))
  refine nx_op rfl (op_callD rfl rfl rfl (fun W hp => trailed_ok hp h bt) (fun v34 G34 le34 ph34 => ?_))
  subst ph34
  refine nv v_move ?_
  refine nx_guard (t := 35) rfl (fun g35 => ?_) (fun g35 => ?_)
  refine nr v_move (nr v_move (nr v_load_o ?_))
  refine nx_op_run rfl rfl rfl (op_callS rfl rfl rfl (fun W hp => goes_ok hp (h.le le34) (bt.le le34) len (trailed_ne g35)) ?_)
  refine nv v_pick_t (nv v_move ?_)
  refine nx_guard (t := 41) rfl (fun g41 => ?_) (fun g41 => ?_)
  refine nr v_move (nr v_move (nr v_load_o ?_))
  refine nx_op_run rfl rfl rfl (op_callS rfl rfl rfl (fun W hp => lies_ok hp (h.le le34) (bt.le le34) len (trailed_ne g35) hnum hn (by omega) (by have := goes_range hnum g41; omega) (by have := goes_range hnum g41; omega)) ?_)
  refine nv v_pick_t (nv v_assign (nx_nil (nx_then (nx_ret (nx_in_ret (nx_then_ret ?_))))))
  exact nx_ret1 rfl (.tmp rfl) (rt (le34) (by (unfold NetD.mayB; rw [if_neg hr]; simp [*]; done)))
  refine nk (k := nk (k := nk (k := nk (k := nv v_pick_f (nv v_assign (nx_nil (nx_then (nx_ret (nx_in_ret (nx_then_ret ?_))))))))))
  exact nx_ret1 rfl (.tmp rfl) (rt (le34) (by (unfold NetD.mayB; rw [if_neg hr]; simp [*]; done)))
  refine nk (k := nk (k := nk (k := nk (k := nv v_pick_f (nv v_move (nk (k := nk (k := nk (k := nk (k := nv v_pick_f (nv v_assign ?_)))))))))))
  refine nx_nil (nx_then (nx_ret (nx_in_ret (nx_then_ret ?_))))
  exact nx_ret1 rfl (.tmp rfl) (rt (le34) (by (unfold NetD.mayB; rw [if_neg hr]; simp [*]; done)))
  refine nx_seq (nx_region (nv v_eql (nv v_assign (nx_nil (nx_then ?_)))))
  refine nx_cond_dec rfl (fun c47 => ?_) (fun c47 => ?_)
  refine nx_seq (nx_region (nv v_move (nv v_load_o ?_)))
  refine nx_op rfl (op_callD rfl rfl rfl (fun W hp => trailed_ok hp h bt) (fun v51 G51 le51 ph51 => ?_))
  subst ph51
  refine nv v_move ?_
  refine nx_guard (t := 52) rfl (fun g52 => ?_) (fun g52 => ?_)
  refine nr v_load_o ?_
  refine nx_op_run rfl rfl rfl (op_callS rfl rfl rfl (fun W hp => rests_ok hp b) ?_)
  refine nv v_pick_t (nv v_move ?_)
  refine nx_guard (t := 56) rfl (fun g56 => ?_) (fun g56 => ?_)
  refine nr v_move (nr v_move (nr v_load_o ?_))
  refine nx_op_run rfl rfl rfl (op_callS rfl rfl rfl (fun W hp => lies_ok hp (h.le le51) (bt.le le51) len (trailed_ne g52) hnum hn (by omega) (by have := rests_zero g56; omega) (by have := rests_zero g56; omega)) ?_)
  refine nv v_pick_t (nv v_assign (nx_nil (nx_then (nx_ret (nx_in_ret (nx_then_ret ?_))))))
  exact nx_ret1 rfl (.tmp rfl) (rt (le51) (by (unfold NetD.mayB; rw [if_neg hr]; simp [*]; done)))
  refine nk (k := nk (k := nk (k := nk (k := nv v_pick_f (nv v_assign (nx_nil (nx_then (nx_ret (nx_in_ret (nx_then_ret ?_))))))))))
  exact nx_ret1 rfl (.tmp rfl) (rt (le51) (by (unfold NetD.mayB; rw [if_neg hr]; simp [*]; done)))
  refine nk (k := nk (k := nv v_pick_f (nv v_move (nk (k := nk (k := nk (k := nk (k := nv v_pick_f (nv v_assign (nx_nil (nx_then ?_)))))))))))
  refine nx_ret (nx_in_ret (nx_then_ret ?_))
  exact nx_ret1 rfl (.tmp rfl) (rt (le51) (by (unfold NetD.mayB; rw [if_neg hr]; simp [*]; done)))
  refine nx_skip (nx_in _ (nx_then (nx_seq (nx_region (nv v_assign (nx_nil (nx_then (nx_ret ?_))))))))
  exact nx_ret1 rfl (.tmp rfl) (rt ((Gh.le.refl _)) (by (unfold NetD.mayB; rw [if_neg hr]; simp [*]; done)))
end Go.Proofs.YtjckojnlapchoaaGreat
open Go Go.RowKit
namespace Go.Proofs.YtjckojnlapchoaaGreat
open Go.Proofs
theorem Body.eq_iff (a b : Body) : a = b ↔ a.mode = b.mode ∧ a.trail = b.trail ∧ a.left = b.left ∧ a.over = b.over ∧ a.v = b.v := by
  obtain ⟨a1, a2, a3, a4, a5⟩ := a; obtain ⟨b1, b2, b3, b4, b5⟩ := b; simp
set_option maxRecDepth 20000 in
set_option maxHeartbeats 1000000 in
theorem sameB_ok {G : Gh} {H : List (Nat × Obj)} {W : World} (hp : Hp G H W) {A1 : Option Addr} {n1 c1 : Nat} {a : Body} (at_ : Body.At G A1 n1 c1 a) {xA1 : Option Addr} {xn1 xc1 : Nat} {b : Body} (bt : Body.At G xA1 xn1 xc1 b) : Calls Tryz.prog 41 ⟨[.agg ⟨[.int .i64 a.mode, .slice A1 n1 c1, .int .i64 a.left, .int .i64 a.over, .int .i64 a.v]⟩, .agg ⟨[.int .i64 b.mode, .slice xA1 xn1 xc1, .int .i64 b.left, .int .i64 b.over, .int .i64 b.v]⟩]⟩ W (RetS G H (.bool (decide (a = b)))) := by
  refine enter Tryz.func41 rfl Tryz.ntmps41 (Nat.le_of_ble_eq_true rfl) hp (nx_seq (nx_region ?_))
  refine nx_op rfl (op_box rfl rfl (fun b2 => ?_))
  refine nx_op rfl (op_box rfl rfl (fun b3 => ?_))
  refine nv v_assign (nx_nil (nx_then (nx_seq (nx_region (nv v_fieldAddr (nv v_load1_o (nv v_fieldAddr (nv v_load1_o (nv v_eql (nv v_move ?_))))))))))
  refine nx_guard_dec (t := 10) rfl (fun g10 => ?_) (fun g10 => ?_)
  refine nr v_fieldAddr (nr v_load1_o (nr v_fieldAddr (nr v_load1_o ?_)))
  refine nx_op_run rfl rfl rfl (op_callS rfl rfl rfl (fun W hp => equal_Port hp at_.h1 bt.h1) ?_)
  refine nv v_pick_t (nv v_move ?_)
  refine nx_guard_dec (t := 17) rfl (fun g17 => ?_) (fun g17 => ?_)
  refine nr v_fieldAddr (nr v_load1_o (nr v_fieldAddr (nr v_load1_o (nr v_eql (nv v_pick_t (nv v_move ?_))))))
  refine nx_guard_dec (t := 24) rfl (fun g24 => ?_) (fun g24 => ?_)
  refine nr v_fieldAddr (nr v_load1_o (nr v_fieldAddr (nr v_load1_o (nr v_eql (nv v_pick_t (nv v_move ?_))))))
  refine nx_guard_dec (t := 31) rfl (fun g31 => ?_) (fun g31 => ?_)
  refine nr v_fieldAddr (nr v_load1_o (nr v_fieldAddr (nr v_load1_o (nr v_eql (nv v_pick_t (nv v_assign (nx_nil (nx_then (nx_ret ?_)))))))))
  exact nx_ret1 rfl (.tmp rfl) (rs (by congr 1; rw [Bool.eq_iff_iff]; simp only [decide_eq_true_eq, Body.eq_iff]; simp [*]))
  refine nk (k := nk (k := nk (k := nk (k := nk (k := nv v_pick_f (nv v_assign (nx_nil (nx_then (nx_ret ?_)))))))))
  exact nx_ret1 rfl (.tmp rfl) (rs (by congr 1; rw [Bool.eq_iff_iff]; simp only [decide_eq_true_eq, Body.eq_iff]; simp [*]))
  refine nk (k := nk (k := nk (k := nk (k := nk (k := nv v_pick_f (nv v_move (nk (k := nk (k := nk (k := nk (k := nk (k := ?_))))))))))))
  refine nv v_pick_f (nv v_assign (nx_nil (nx_then (nx_ret ?_))))
  exact nx_ret1 rfl (.tmp rfl) (rs (by congr 1; rw [Bool.eq_iff_iff]; simp only [decide_eq_true_eq, Body.eq_iff]; simp [*]))
  refine nk (k := nk (k := nk (k := nk (k := nk (k := nv v_pick_f (nv v_move (nk (k := nk (k := nk (k := nk (k := nk (k := ?_))))))))))))
  refine nv v_pick_f (nv v_move (nk (k := nk (k := nk (k := nk (k := nk (k := nv v_pick_f (nv v_assign (nx_nil (nx_then (nx_ret ?_)))))))))))
  exact nx_ret1 rfl (.tmp rfl) (rs (by congr 1; rw [Bool.eq_iff_iff]; simp only [decide_eq_true_eq, Body.eq_iff]; simp [*]))
  refine nk (k := nk (k := nk (k := nk (k := nk (k := nv v_pick_f (nv v_move (nk (k := nk (k := nk (k := nk (k := nk (k := ?_))))))))))))
  refine nv v_pick_f (nv v_move (nk (k := nk (k := nk (k := nk (k := nk (k := nv v_pick_f (nv v_move (nk (k := nk (k := nk (k := ?_))))))))))))
  refine nk (k := nk (k := nv v_pick_f (nv v_assign (nx_nil (nx_then (nx_ret ?_))))))
  exact nx_ret1 rfl (.tmp rfl) (rs (by congr 1; rw [Bool.eq_iff_iff]; simp only [decide_eq_true_eq, Body.eq_iff]; simp [*]))
def IsBody (b : Body) (G : Gh) (v : Value) : Prop := ∃ A1 n1 c1, v = .agg ⟨[.int .i64 b.mode, .slice A1 n1 c1, .int .i64 b.left, .int .i64 b.over, .int .i64 b.v]⟩ ∧ Body.At G A1 n1 c1 b
def NetD.whole (N : NetD) (b : Body) : Option Int := match b.trail with
  | [x] => if b.mode = 2 ∧ b.over = 0 ∧ N.p.kind x.elem = 1 then some x.elem else none
  | _ => none
set_option maxRecDepth 20000 in
set_option maxHeartbeats 1000000 in
theorem whole_ok {G : Gh} {H : List (Nat × Obj)} {W : World} (hp : Hp G H W) {g : Nat} {N : NetD} (h : NetAt G g N) {A1 : Option Addr} {n1 c1 : Nat} {b : Body} (bt : Body.At G A1 n1 c1 b) : Calls Tryz.prog 60 ⟨[.pointer (some ⟨g, 0, none⟩), .agg ⟨[.int .i64 b.mode, .slice A1 n1 c1, .int .i64 b.left, .int .i64 b.over, .int .i64 b.v]⟩]⟩ W (RetS G H (.tuple #[.int .i64 ((N.whole b).getD 0), .bool (N.whole b).isSome])) := by
  have hl := bt.h1.length
  refine enter Tryz.func60 rfl Tryz.ntmps60 (Nat.le_of_ble_eq_true rfl) hp (nx_seq (nx_region ?_))
  refine nx_op rfl (op_box rfl rfl (fun b3 => ?_))
  refine nv v_assign (nv v_assign (nx_nil (nx_then (nx_seq (nx_seq (nx_region (nv v_fieldAddr (nv v_load1_o (nv v_neq (nv v_move ?_))))))))))
  refine nx_guard_dec (t := 9) rfl (fun g9 => ?_) (fun g9 => ?_)
  refine nk (k := nk (k := nk (k := nk (k := nv v_pick_t (nv v_move (nk (k := nk (k := nk (k := nv v_pick_t (nv v_move (nk (k := ?_))))))))))))
  refine nk (k := nk (k := nk (k := nk (k := nk (k := nk (k := nk (k := nv v_pick_t (nx_nil (nx_then (nx_cond_t rfl (nx_seq ?_)))))))))))
  refine nx_region (nv v_assign (nv v_assign (nx_nil (nx_then (nx_ret (nx_then_ret ?_))))))
  exact nx_ret2 rfl (.tmp rfl) (.tmp rfl) (rs (by first
    | (have hw : N.whole b = none := by
        unfold NetD.whole; split
        · rename_i y hy; rw [hy] at hl; simp at hl; (rw [if_neg (by omega)])
        · rfl
       rw [hw]; rfl)
    | (have hw : N.whole b = none := by
        unfold NetD.whole; rw [hx]; exact if_neg (by omega)
       rw [hw]; rfl)
    | (have hw : N.whole b = some x.elem := by
        unfold NetD.whole; rw [hx]; exact if_pos (by omega)
       rw [hw]; rfl)))
  refine nr v_fieldAddr (nr v_load1_o (nr v_len (nr v_neq (nv v_pick_f (nv v_move ?_)))))
  refine nx_guard_dec (t := 15) rfl (fun g15 => ?_) (fun g15 => ?_)
  refine nk (k := nk (k := nk (k := nv v_pick_t (nv v_move (nk (k := nk (k := nk (k := nk (k := nk (k := nk (k := nk (k := ?_))))))))))))
  refine nk (k := nv v_pick_t (nx_nil (nx_then (nx_cond_t rfl (nx_seq (nx_region (nv v_assign (nv v_assign (nx_nil (nx_then (nx_ret ?_)))))))))))
  refine nx_then_ret ?_
  exact nx_ret2 rfl (.tmp rfl) (.tmp rfl) (rs (by first
    | (have hw : N.whole b = none := by
        unfold NetD.whole; split
        · rename_i y hy; rw [hy] at hl; simp at hl; (rw [if_neg (by omega)])
        · rfl
       rw [hw]; rfl)
    | (have hw : N.whole b = none := by
        unfold NetD.whole; rw [hx]; exact if_neg (by omega)
       rw [hw]; rfl)
    | (have hw : N.whole b = some x.elem := by
        unfold NetD.whole; rw [hx]; exact if_pos (by omega)
       rw [hw]; rfl)))
  obtain ⟨x, hx⟩ : ∃ x, b.trail = [x] := List.length_eq_one_iff.1 (by omega)
  obtain ⟨xb, xo, xe, xk, xf0, xf1⟩ := get_Port bt.h1 (by rw [hx]; rfl : b.trail[0]? = some x)
  cases xe
  refine nr v_fieldAddr (nr v_load1_o (nr v_neq (nv v_pick_f (nv v_move ?_))))
  refine nx_guard_dec (t := 20) rfl (fun g20 => ?_) (fun g20 => ?_)
  refine nk (k := nk (k := nk (k := nk (k := nk (k := nk (k := nk (k := nk (k := nv v_pick_t (nx_nil (nx_then (nx_cond_t rfl ?_)))))))))))
  refine nx_seq (nx_region (nv v_assign (nv v_assign (nx_nil (nx_then (nx_ret (nx_then_ret ?_)))))))
  exact nx_ret2 rfl (.tmp rfl) (.tmp rfl) (rs (by first
    | (have hw : N.whole b = none := by
        unfold NetD.whole; split
        · rename_i y hy; rw [hy] at hl; simp at hl; (rw [if_neg (by omega)])
        · rfl
       rw [hw]; rfl)
    | (have hw : N.whole b = none := by
        unfold NetD.whole; rw [hx]; exact if_neg (by omega)
       rw [hw]; rfl)
    | (have hw : N.whole b = some x.elem := by
        unfold NetD.whole; rw [hx]; exact if_pos (by omega)
       rw [hw]; rfl)))
  refine nr v_move (nr v_fieldAddr (nr v_load1_o (nr (v_indexAddr_nat (k := 0) rfl rfl rfl (by omega)) (nr v_fieldAddr (nr v_load1_s ?_)))))
  refine nx_op_run rfl rfl rfl (op_callS rfl rfl rfl (fun W hp => kind_ok hp h x.elem) ?_)
  refine nr v_neq (nv v_pick_f (nx_nil (nx_then ?_)))
  refine nx_cond_dec rfl (fun c29 => ?_) (fun c29 => ?_)
  refine nx_seq (nx_region (nv v_assign (nv v_assign (nx_nil (nx_then (nx_ret (nx_then_ret ?_)))))))
  exact nx_ret2 rfl (.tmp rfl) (.tmp rfl) (rs (by first
    | (have hw : N.whole b = none := by
        unfold NetD.whole; split
        · rename_i y hy; rw [hy] at hl; simp at hl; first | (rw [if_neg (by omega)]) | omega
        · rfl
       rw [hw]; rfl)
    | (have hw : N.whole b = none := by
        unfold NetD.whole; rw [hx]; exact if_neg (by omega)
       rw [hw]; rfl)
    | (have hw : N.whole b = some x.elem := by
        unfold NetD.whole; rw [hx]; exact if_pos (by omega)
       rw [hw]; rfl)))
  refine nx_skip (nx_then (nx_seq (nx_region (nv v_fieldAddr (nv v_load1_o (nv (v_indexAddr_nat (k := 0) rfl rfl rfl (by omega)) (nv v_fieldAddr (nv v_load1_s (nv v_assign (nv v_assign (nx_nil ?_)))))))))))
  refine nx_then (nx_ret ?_)
  exact nx_ret2 rfl (.tmp rfl) (.tmp rfl) (rs (by first
    | (have hw : N.whole b = none := by
        unfold NetD.whole; split
        · rename_i y hy; rw [hy] at hl; simp at hl; first | (rw [if_neg (by omega)]) | omega
        · rfl
       rw [hw]; rfl)
    | (have hw : N.whole b = none := by
        unfold NetD.whole; rw [hx]; exact if_neg (by omega)
       rw [hw]; rfl)
    | (have hw : N.whole b = some x.elem := by
        unfold NetD.whole; rw [hx]; exact if_pos (by omega)
       rw [hw]; rfl)))
def noBody : Body := ⟨0, [], 0, 0, 0⟩
def NetD.turn (N : NetD) (len : Int) (b : Body) : Option Body := match N.whole b with
  | none => none
  | some e => if ¬ b.v = 0 then none else
    if N.readsAt ⟨e, 1 - ((b.trail[0]?).getD (⟨0, 0⟩ : Port)).fin⟩ < 0 then none
    else some ⟨2, [⟨e, 1 - ((b.trail[0]?).getD (⟨0, 0⟩ : Port)).fin⟩], N.p.length e - b.left - len, 0, 0⟩
def IsTurn (o : Option Body) (G : Gh) (v : Value) : Prop := ∃ A1 n1 c1, v = .tuple #[.agg ⟨[.int .i64 (o.getD noBody).mode, .slice A1 n1 c1, .int .i64 (o.getD noBody).left, .int .i64 (o.getD noBody).over, .int .i64 (o.getD noBody).v]⟩, .bool o.isSome] ∧ Body.At G A1 n1 c1 (o.getD noBody)
theorem IsTurn.none (G : Gh) : IsTurn none G (.tuple #[.agg ⟨[.int .i64 0, .slice none 0 0, .int .i64 0, .int .i64 0, .int .i64 0]⟩, .bool false]) := ⟨Option.none, 0, 0, rfl, ⟨Sl.nil _ _⟩⟩
theorem whole_one {N : NetD} {b : Body} {e : Int} (h : N.whole b = some e) : ∃ x, b.trail = [x] := by
  unfold NetD.whole at h
  split at h
  · exact ⟨_, by assumption⟩
  · cases h
set_option maxRecDepth 20000 in
set_option maxHeartbeats 1000000 in
theorem turn_ok {G : Gh} {H : List (Nat × Obj)} {W : World} (hp : Hp G H W) {g : Nat} {N : NetD} (h : NetAt G g N) {A1 : Option Addr} {n1 c1 : Nat} {b : Body} (bt : Body.At G A1 n1 c1 b) (len : Int) (hnum : numbersOk N.p = true) (hlen : 1 ≤ len ∧ len ≤ 4000) (hle : 0 ≤ b.left ∧ b.left ≤ 4000) (hf : ∀ x, x ∈ b.trail → 0 ≤ x.fin ∧ x.fin < 4) : Calls Tryz.prog 23 ⟨[.pointer (some ⟨g, 0, none⟩), .int .i64 len, .agg ⟨[.int .i64 b.mode, .slice A1 n1 c1, .int .i64 b.left, .int .i64 b.over, .int .i64 b.v]⟩]⟩ W (RetD G H (IsTurn (N.turn len b))) := by
  have hl := bt.h1.length
  refine enter Tryz.func23 rfl Tryz.ntmps23 (Nat.le_of_ble_eq_true rfl) hp (nx_seq (nx_region ?_))
  refine nx_op rfl (op_box rfl rfl (fun b5 => ?_))
  refine nx_op rfl (op_alloc rfl (fun b6 => ?_))
  refine nv v_assign (nx_nil (nx_then (nx_seq (nx_region (nv v_move (nv v_load_o ?_))))))
  refine nx_op rfl (op_callS rfl rfl rfl (fun W hp => whole_ok hp h bt) ?_)
  refine nv v_move (nv (v_extract rfl rfl rfl) (nv (v_extract rfl rfl rfl) (nv v_assign (nv v_assign (nx_nil (nx_then (nx_seq (nx_seq (nx_region (nv v_move (nv v_not ?_)))))))))))
  refine nv v_move ?_
  refine nx_guard (t := 19) rfl (fun g19 => ?_) (fun g19 => ?_)
  refine nk (k := nk (k := nk (k := nv v_pick_t (nx_nil (nx_then (nx_cond_t rfl ?_))))))
  have hno : N.turn len b = none := by
    unfold NetD.turn
    cases hw : N.whole b with
    | none => rfl
    | some e => (rw [hw] at g19; simp at g19; done)
  refine nx_seq (nx_region (nv (v_build rfl rfl rfl) (st (k := nv v_assign (nx_nil (nx_then (nx_ret (nx_then_ret ?_))))))))
  exact nx_ret2 rfl ro (.tmp rfl) (rt ((Gh.le.refl _)) (by rw [hno]; exact IsTurn.none _))
  refine nr v_fieldAddr (nr v_load1_o (nr v_neq (nv v_pick_f (nx_nil (nx_then ?_)))))
  refine nx_cond_dec rfl (fun c23 => ?_) (fun c23 => ?_)
  have hno : N.turn len b = none := by
    unfold NetD.turn
    cases hw : N.whole b with
    | none => rfl
    | some e => exact if_pos c23
  refine nx_seq (nx_region (nv (v_build rfl rfl rfl) (st (k := nv v_assign (nx_nil (nx_then (nx_ret (nx_then_ret ?_))))))))
  exact nx_ret2 rfl ro (.tmp rfl) (rt ((Gh.le.refl _)) (by rw [hno]; exact IsTurn.none _))
  obtain ⟨e, hw⟩ := Option.isSome_iff_exists.1 (by simpa using g19 : (N.whole b).isSome = true)
  obtain ⟨x, hx⟩ := whole_one hw
  have hx0 : b.trail[0]? = some x := by rw [hx]; rfl
  obtain ⟨xb, xo, xe, xk, xf0, xf1⟩ := get_Port bt.h1 hx0
  cases xe
  have hxf := hf x (by rw [hx]; exact List.mem_cons_self)
  have he : (N.whole b).getD 0 = e := by rw [hw]; rfl
  have hrl := Plan.length_range hnum ((N.whole b).getD 0)
  have hres : N.turn len b = if N.readsAt ⟨(N.whole b).getD 0, 1 - x.fin⟩ < 0 then none else some ⟨2, [⟨(N.whole b).getD 0, 1 - x.fin⟩], N.p.length ((N.whole b).getD 0) - b.left - len, 0, 0⟩ := by
    unfold NetD.turn; rw [hw, hx0]; exact if_neg (by omega)
  refine nx_skip (nx_then (nx_seq (nx_region (nv v_move (nv v_fieldAddr (nv v_load1_o (nv (v_indexAddr_nat (k := 0) rfl rfl rfl (by omega)) (nv v_fieldAddr (nv v_load1_s (nv v_sub (nv (v_build rfl rfl rfl) ?_)))))))))))
  refine nx_op rfl (op_alloc rfl (fun b10 => ?_))
  refine st (k := nx_nil (nx_then (nx_seq (nx_seq (nx_region (nv v_move (nv v_load_o ?_)))))))
  refine nx_op rfl (op_callS rfl rfl rfl (fun W hp => reads_ok hp h ⟨(N.whole b).getD 0, 1 - x.fin⟩) ?_)
  refine nv v_lss (nx_nil (nx_then ?_))
  refine nx_cond_dec rfl (fun c36 => ?_) (fun c36 => ?_)
  have hno : N.turn len b = none := by rw [hres]; exact if_pos c36
  refine nx_seq (nx_region (nv (v_build rfl rfl rfl) (st (k := nv v_assign (nx_nil (nx_then (nx_ret (nx_then_ret ?_))))))))
  exact nx_ret2 rfl ro (.tmp rfl) (rt ((Gh.le.refl _)) (by rw [hno]; exact IsTurn.none _))
  have hyes : N.turn len b = some ⟨2, [⟨(N.whole b).getD 0, 1 - x.fin⟩], N.p.length ((N.whole b).getD 0) - b.left - len, 0, 0⟩ := by rw [hres]; exact if_neg c36
  refine nx_skip (nx_then (nx_seq (dr_begin 11 (.q 0 (.q 2 (.q 3 (.q 5 (.q 6 (.q 8 (.b 1 4 (.l 4 (.q 7 (.q 9 (.q 10 .done)))) (.q 7 (.q 9 (.l 1 (.q 10 .done))))))))))) rfl (by kernel_rfl) (dr_q rfl rfl v_load_o ic (dr_q rfl rfl v_move ic (dr_q rfl rfl v_move ic (dr_q rfl rfl v_fieldAddr ic (dr_q rfl rfl v_load1_o ic (dr_q rfl rfl v_move ic ?_)))))))))
  refine dr_b rfl rfl rfl rfl ?_ ?_
  refine op_buildSlice rfl rfl rfl rfl rfl (fun b39 => ?_)
  refine dr_k (ic.cons _) (dr_l rfl rfl ?_)
  refine op_callS rfl rfl rfl (fun W hp => length_ok hp h ((N.whole b).getD 0)) ?_
  refine dr_k (ic.cons _) (dr_q rfl rfl v_sub (ic.cons _) (dr_q rfl rfl v_sub (ic.cons _) (dr_q rfl rfl (v_build rfl rfl rfl) (ic.cons _) (dr_end rfl (st (k := nv v_assign ?_))))))
  refine nx_nil (nx_np ?_)
  refine nx_then (nx_ret ?_)
  refine nx_row (T := tPort) (l := [⟨(N.whole b).getD 0, 1 - x.fin⟩]) (b := b39) (by repeat (first | exact Take.here | apply Take.cons | apply Take.app)) (rows_Port [⟨(N.whole b).getD 0, 1 - x.fin⟩]) rfl (Nat.le_of_ble_eq_true rfl) (fun G9 le9 s9 => ?_)
  exact nx_ret2 rfl ro (.tmp rfl) (rt (le9) (by rw [hyes]; exact ⟨_, _, _, rfl, ⟨s9⟩⟩))
  refine op_callS rfl rfl rfl (fun W hp => length_ok hp h ((N.whole b).getD 0)) ?_
  refine dr_k ic (dr_q rfl rfl v_sub ic (dr_q rfl rfl v_sub ic (dr_l rfl rfl ?_)))
  refine op_buildSlice rfl rfl rfl rfl rfl (fun b39 => ?_)
  refine dr_k (ic.cons _) (dr_q rfl rfl (v_build rfl rfl rfl) (ic.cons _) (dr_end rfl (st (k := nv v_assign ?_))))
  refine nx_nil (nx_np ?_)
  refine nx_then (nx_ret ?_)
  refine nx_row (T := tPort) (l := [⟨(N.whole b).getD 0, 1 - x.fin⟩]) (b := b39) (by repeat (first | exact Take.here | apply Take.cons | apply Take.app)) (rows_Port [⟨(N.whole b).getD 0, 1 - x.fin⟩]) rfl (Nat.le_of_ble_eq_true rfl) (fun G9 le9 s9 => ?_)
  exact nx_ret2 rfl ro (.tmp rfl) (rt (le9) (by rw [hyes]; exact ⟨_, _, _, rfl, ⟨s9⟩⟩))
end Go.Proofs.YtjckojnlapchoaaGreat
