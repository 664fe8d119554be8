/- What carries a fact to a later world (blocks laid and orders drawn change nothing below), and the steps of the walks that come by the hundred. No condition. -/
import Derived.Test.YtfpdloccmneabaaPx0
namespace Go.Proofs.Ytfpdloccmneabaa.P
open Go Go.RowKit Go.Proofs.YtfpdloccmneabaaW.PrintWords Go.Proofs.YtfpdloccmneabaaW.PrintLast Go.Proofs.YtfpdloccmneabaaW.PrintMore
class Ups (w w' : World) : Prop where
  up : Below w.heap.size w w'
instance (priority := low) Ups.same (w : World) : Ups w w := ⟨Below.refl _ _⟩
instance Ups.alloc (w W : World) (o : Obj) [h : Ups w W] : Ups w (W.alloc o) := ⟨below_alloc h.up o⟩
instance Ups.drewN (w W : World) (n : Nat) [h : Ups w W] : Ups w (W.drewN n) := ⟨pw_below_drewN h.up n⟩
instance Ups.drew (w W : World) [h : Ups w W] : Ups w W.drew := ⟨below_drew1 h.up⟩
section
variable {α : Type} {d : Kd α} {e : Nat} {w0 w w' w2 : World} {base : Nat} {ok : Nat → Prop} {v : Value} {xs : List α} {g : Nat} {o : Obj} {A : Option Addr} {n : Nat}
theorem uB [h : Ups w w'] (H : Below w0.heap.size w0 w) : Below w0.heap.size w0 w' := below_step H h.up
theorem uK [h : Ups w w'] (H : w.heap[g]? = some o) : w'.heap[g]? = some o := blk_below H h.up
theorem uR [h : Ups w w'] (H : Kd.R d e w base ok v xs) : Kd.R d e w' base ok v xs := Kd.R_below H h.up
theorem uV [h : Ups w w'] (H : Kd.V d e w base ok v xs) : Kd.V d e w' base ok v xs := Kd.V_below H h.up
theorem uS [h : Ups w w'] (H : Kd.S d e w base ok v xs) : Kd.S d e w' base ok v xs := Kd.S_below H h.up
theorem uC [h : Ups w w'] (H : Kd.C d w A n xs) : Kd.C d w' A n xs := Kd.C_below H h.up
theorem uA {p : Prop} (h : p) : Aside0 p := ⟨h⟩
theorem uBb (H : Aside0 (Below w0.heap.size w0 w)) [h : Ups w w'] (hb : Below w'.heap.size w' w2) : Aside0 (Below w0.heap.size w0 w2) := ⟨below_step (below_step H.out h.up) hb⟩
theorem uKb (H : Aside0 (w.heap[g]? = some o)) [h : Ups w w'] (hb : Below w'.heap.size w' w2) : Aside0 (w2.heap[g]? = some o) := ⟨blk_below (blk_below H.out h.up) hb⟩
theorem uRb (H : Aside0 (Kd.R d e w base ok v xs)) [h : Ups w w'] (hb : Below w'.heap.size w' w2) : Aside0 (Kd.R d e w2 base ok v xs) := ⟨Kd.R_below (Kd.R_below H.out h.up) hb⟩
theorem uVb (H : Aside0 (Kd.V d e w base ok v xs)) [h : Ups w w'] (hb : Below w'.heap.size w' w2) : Aside0 (Kd.V d e w2 base ok v xs) := ⟨Kd.V_below (Kd.V_below H.out h.up) hb⟩
theorem uSb (H : Aside0 (Kd.S d e w base ok v xs)) [h : Ups w w'] (hb : Below w'.heap.size w' w2) : Aside0 (Kd.S d e w2 base ok v xs) := ⟨Kd.S_below (Kd.S_below H.out h.up) hb⟩
theorem uGe (H : Aside0 (Below w0.heap.size w0 w)) [h : Ups w w'] (hg : g = w'.heap.size) : Aside0 (w0.heap.size ≤ g) := ⟨by rw [hg]; exact below_size (uB (h := h) H.out)⟩
theorem uZ {t : TypeId} {a b c d e : Int} (H : Aside0 (w.heap[g]? = some (.cells #[.int .i64 a, .int .i64 b, .int .i64 c, .int .i64 d, .int .i64 e] t (0, 0)))) :
    w.cell? ⟨g, 0, none⟩ = some (.int .i64 a) ∧ w.cell? ⟨g, 1, none⟩ = some (.int .i64 b) ∧ w.cell? ⟨g, 2, none⟩ = some (.int .i64 c) ∧ w.cell? ⟨g, 3, none⟩ = some (.int .i64 d) ∧ w.cell? ⟨g, 4, none⟩ = some (.int .i64 e) ∧ w.frozen? ⟨g, 0, none⟩ = false ∧ w.frozen? ⟨g, 1, none⟩ = false ∧ w.frozen? ⟨g, 2, none⟩ = false ∧ w.frozen? ⟨g, 3, none⟩ = false ∧ w.frozen? ⟨g, 4, none⟩ = false :=
  ⟨(blk_cell H.out 0).trans rfl, (blk_cell H.out 1).trans rfl, (blk_cell H.out 2).trans rfl, (blk_cell H.out 3).trans rfl, (blk_cell H.out 4).trans rfl, blk_frozen H.out 0, blk_frozen H.out 1, blk_frozen H.out 2, blk_frozen H.out 3, blk_frozen H.out 4⟩
theorem uO {β γ : Type} {x : Option β} {f : β → Option γ} {r : γ} (H : x.bind f = some r) : ∃ t, Aside0 (x = some t) ∧ f t = some r := by
  obtain ⟨t, a, b⟩ := Option.bind_eq_some_iff.mp H
  exact ⟨t, ⟨a⟩, b⟩
theorem uY {β γ : Type} (x : β) (f : β → Option γ) (r : γ) : ((some x).bind f = some r) = (∃ y, Aside0 (y = x) ∧ f y = some r) := by
  refine propext ⟨fun H => ⟨x, ⟨rfl⟩, H⟩, ?_⟩
  rintro ⟨y, h, H⟩
  rw [← h.out]
  exact H
theorem uEA {β : Type} (x : β) : ∃ y, Aside0 (y = x) := ⟨x, ⟨rfl⟩⟩
theorem uI {β : Type} {p : Prop} [Decidable p] {x y z : β} (h : p) (H : (if p then x else y) = z) : x = z := by rw [if_pos h] at H; exact H
theorem uJ {β : Type} {p : Prop} [Decidable p] {x y z : β} (h : ¬ p) (H : (if p then x else y) = z) : y = z := by rw [if_neg h] at H; exact H
theorem uN0 : ¬ (false = true) := by decide
theorem uE {β : Type} (x : β) : ∃ y, y = x := ⟨x, rfl⟩
end
def lL : Nat → Nat → List Bool
  | 0, _ => []
  | n + 1, m => (m % 2 == 1) :: lL n (m / 2)
/-- n marks, as the bits of m tell. -/
def lb (n m : Nat) : Array Bool := ⟨lL n m⟩
section
variable {P : Program} {ops : Array Oper} {Q : Exit → Act → World → Prop} {md : Region.Mode} {S : World → Prop} {ds : List Nat} {T : Bool × List (List Nat × List Nat)}
theorem uP {oi : Oper} {v : Value} {fuel : Nat} {l : Array Bool} {a a' : Act} {w : World} (HT : Aside0 (rtab md ops = T)) (i : Nat) (N : Option Tmp) (l' : Array Bool)
    (h : wpAnyLast P md ops Q S ds fuel l' a' w) (hi : ops[i]? = some oi := by rfl) (hN : oi.dst = N := by rfl) (hc : anyT T l.toList l'.toList i = true := by kernel_rfl)
    (hQ : ∀ c a w, Q (.panic c) (a.put oi.dst v) w → Q (.panic c) a w := by exact fun _ _ _ h => h) (hw : Region.wanted oi (yielded ops a.tmps) = true := by rfl)
    (hy : ∀ w', (execOp a.eval oi).run P w' = .ok (.value v) w' := by intro w'; go_simp; with_reducible rfl)
    (ha : a.put N v = a' := by simp only [Act.put, List.setIfInBounds_toArray, List.set_cons_zero, List.set_cons_succ, i64_w, i32_w]; rfl) : wpAnyLast P md ops Q S ds (fuel + 1) l a w :=
  pure_ l' hi hN (any_of HT.out hc) hQ (Or.inl ⟨hw, hy⟩) ha h
theorem uN {fuel : Nat} {l : Array Bool} {a a' : Act} {w : World} (N : Option Tmp) (v : Value) (h : wpAnyLast P md ops Q S ds fuel l a' w)
    (ha : a.put N v = a' := by simp only [Act.put, List.setIfInBounds_toArray, List.set_cons_zero, List.set_cons_succ, i64_w, i32_w]; rfl) : wpAnyLast P md ops Q S ds fuel l (a.put N v) w := norm_ ha h
theorem uT {B : List Nat} {oi : Oper} {v : Value} {fuel : Nat} {l : Array Bool} {a a' : Act} {w : World} (HT : Aside0 (rtab md ops = T)) (HW : Aside0 (waitsOk T.2 B = true)) (i : Nat) (N : Option Tmp) (l' : Array Bool) (hi : ops[i]? = some oi) (hS : S w)
    (h : wpAnyLast P md ops Q S ds fuel l' a' w) (hy : ∀ w', S w' → (execOp a.eval oi).run P w' = .ok (.value v) w') (hN : oi.dst = N := by rfl) (hc : takeW T B ds l.toList l'.toList i = true := by kernel_rfl)
    (hQ : ∀ c a w, Q (.panic c) (a.put oi.dst v) w → Q (.panic c) a w := by exact fun _ _ _ h => h) (hw : Region.wanted oi (yielded ops a.tmps) = true := by rfl)
    (ha : a.put N v = a' := by simp only [Act.put, List.setIfInBounds_toArray, List.set_cons_zero, List.set_cons_succ, i64_w, i32_w]; rfl) : wpAnyLast P md ops Q S ds (fuel + 1) l a w :=
  take_ l' hi hN (take_ofW HT.out HW.out hc) hQ (Or.inl ⟨hw, hy⟩) hS ha h
variable {rest : List Oper} {oi : Oper} {a : Act} {w : World}
theorem uG (N : Option Tmp) {f : FuncId} {fn : Func} {ys : Array Operand} {ts : Array TypeId} (hf : P.funcs[f]? = some fn) (args : Array Value)
    (h : Calls P f args w fun e w' => ∃ v, e = .returned v ∧ wpList P ops Q rest (a.put N v) w')
    (hd : oi.dst = N := by rfl) (hg : oi.guard = none := by rfl) (hname : (fn.name == "runtime.NumGoroutine") = false := by kernel_rfl) (hb : fn.body.isSome = true := by rfl)
    (hop : oi.op = .call { callee := .value (.func f), args := ys, argTypes := ts } := by rfl)
    (hargs : ys.map a.eval = args := by (try simp only [List.map_toArray, List.map_cons, List.map_nil]); first | done | rfl | (simp only [List.length_drop, List.length_take]; rfl)) : wpList P ops Q (oi :: rest) a w :=
  goesL_ N hd hg hf hname hb args hop hargs h
theorem uX (N : Tmp) (cs : Array Value) (t : TypeId)
    (h : ∀ g, g = w.heap.size → ∀ w1, w1.heap[g]? = some (.cells cs t (0, 0)) → Below w.heap.size w w1 → wpList P ops Q rest (a.put oi.dst (.pointer (some ⟨g, 0, none⟩))) w1)
    (hg : oi.guard = none := by rfl) (hd : oi.dst = some N := by rfl)
    (hr : (execOp a.eval oi).run P w = .ok (.value (.pointer (some ⟨w.heap.size, 0, none⟩))) (w.alloc (.cells cs t (0, 0))) := by first | (go_simp; done) | (go_simp; rfl)) : wpList P ops Q (oi :: rest) a w :=
  box_event hg hd hr h
end
end Go.Proofs.Ytfpdloccmneabaa.P
