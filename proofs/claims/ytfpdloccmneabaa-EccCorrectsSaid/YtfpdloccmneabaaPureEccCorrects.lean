/- The pure statement of the law EccCorrects: what the printed function of the law comes to is true at every input. No condition. -/
import Derived.Test.YtfpdloccmneabaaEcc
import Derived.Test.YtfpdloccmneabaaPx20
import Derived.Test.YtfpdloccmneabaaPx10
set_option linter.unusedVariables false
set_option linter.unusedSimpArgs false
namespace Go.Proofs.Ytfpdloccmneabaa.Pure
open Go Go.RowKit Go.Proofs.Ytfpdloccmneabaa.P Go.Proofs.YtfpdloccmneabaaW.PrintWords Go.Proofs.YtfpdloccmneabaaW.PrintLast Go.Proofs.YtfpdloccmneabaaW.PrintMore Go.Proofs.CsM Go.Proofs.Ytfpdloccmneabaa.L
theorem xor_check : allb (fun c => (let r := Go.bits .xor .u8 ((c % 256 : Nat) : Int) ((2 ^ (c / 256) : Nat) : Int); decide (0 ≤ r) && decide (r < 256) && allb (fun i => r.toNat.testBit i == ((c % 256).testBit i ^^ (i == c / 256))) 3 0)) 11 0 = true := by decide +kernel
theorem xor_u8 {x : Int} (hx : 0 ≤ x ∧ x < 256) {j : Nat} (hj : j < 8) : (0 ≤ Go.bits .xor .u8 x ((2 ^ j : Nat) : Int) ∧ Go.bits .xor .u8 x ((2 ^ j : Nat) : Int) < 256) ∧ ∀ i, i < 8 → (Go.bits .xor .u8 x ((2 ^ j : Nat) : Int)).toNat.testBit i = (x.toNat.testBit i ^^ (i == j)) := by
  obtain ⟨a, rfl⟩ := Int.eq_ofNat_of_zero_le hx.1
  have h := allb_sound 11 0 xor_check (a + 256 * j) (Nat.zero_le _) (by omega)
  rw [show (a + 256 * j) % 256 = a from by omega, show (a + 256 * j) / 256 = j from by omega] at h
  simp only [Bool.and_eq_true, decide_eq_true_eq] at h
  refine ⟨h.1, fun i hi => ?_⟩
  have := allb_sound 3 0 h.2 i (Nat.zero_le _) (by omega)
  rw [Int.toNat_natCast]
  exact eq_of_beq this
theorem cnt_upd {f : Nat → Bool} {q : Nat} (h : f q = false) : ∀ m, cnt (fun j => if j = q then true else f j) m = cnt f m + (if q < m then 1 else 0)
  | 0 => by rw [cnt_zero, cnt_zero, if_neg (Nat.not_lt_zero _)]
  | m + 1 => by
    rw [cnt_succ, cnt_succ, cnt_upd h m]
    by_cases e : m = q
    · subst e
      rw [if_pos rfl, h, if_neg (Nat.lt_irrefl _), if_pos (Nat.lt_succ_self _)]; rfl
    · rw [if_neg e]
      by_cases h1 : q < m
      · rw [if_pos h1, if_pos (show q < m + 1 by omega)]; omega
      · rw [if_neg h1, if_neg (show ¬ q < m + 1 by omega)]; omega
theorem getDB_set {l : List Bool} {i : Nat} (hi : i < l.length) (v : Bool) (j : Nat) : (l.set i v).getD j false = if j = i then v else l.getD j false := by
  rw [List.getD_eq_getElem?_getD, List.getD_eq_getElem?_getD, List.getElem?_set]
  by_cases h : i = j
  · subst h; rw [if_pos rfl, if_pos rfl, if_pos hi]; rfl
  · rw [if_neg h, if_neg (fun e => h e.symm)]
theorem bitAt_take {l : List Int} {n j : Nat} (h : j < 8 * n) : bitAt (l.take n) j = bitAt l j := by
  unfold bitAt
  rw [List.getD_eq_getElem?_getD, List.getElem?_take, if_pos (by omega), ← List.getD_eq_getElem?_getD]
theorem bitAt_drop (l : List Int) (n j : Nat) : bitAt (l.drop n) j = bitAt l (8 * n + j) := by
  unfold bitAt
  rw [List.getD_eq_getElem?_getD, List.getElem?_drop, ← List.getD_eq_getElem?_getD, show (8 * n + j) / 8 = n + j / 8 from by omega, show (8 * n + j) % 8 = j % 8 from by omega]
theorem bitAt_high {l : List Int} {j : Nat} (h : 8 * l.length ≤ j) : bitAt l j = false := by
  unfold bitAt
  rw [List.getD_eq_getElem?_getD, List.getElem?_eq_none (by omega)]
  simp
/-- The raw bytes x are the packed ones P, but for the bits that fs marks; cs tells how many of a sector's first q bits are marked. -/
structure CorI (P : List Int) (s w q : Nat) (x cs : List Int) (fs : List Bool) : Prop where
  len : x.length = s * w + 1
  byt : Byt x
  last : x.getD (s * w) 0 = 0
  bit : ∀ j, bitAt x j = (bitAt P j ^^ fs.getD j false)
  cl : cs.length = s
  num : ∀ c, c < s → cs.getD c 0 = ((cnt (fun j => fs.getD (8 * (c * w) + j) false) q : Nat) : Int)
  fl : fs.length = 8 * (s * w + 1)
theorem place {p s w : Nat} (hp : p < 8 * (s * w)) (hw : 0 < w) : p = 8 * (p / 8 / w * w) + p % (8 * w) ∧ p % (8 * w) < 8 * w ∧ p / 8 / w < s := by
  have h1 : p / 8 / w = p / (8 * w) := Nat.div_div_eq_div_mul p 8 w
  have h2 := Nat.div_add_mod p (8 * w)
  have h3 : 8 * w * (p / (8 * w)) = 8 * (p / (8 * w) * w) := by rw [Nat.mul_assoc, Nat.mul_comm w]
  have h4 : p % (8 * w) < 8 * w := Nat.mod_lt _ (by omega)
  rw [h1]
  refine ⟨by omega, h4, Nat.lt_of_mul_lt_mul_right (a := w) (by omega)⟩
theorem CorI.step {P x cs : List Int} {fs : List Bool} {s w q : Nat} (h : CorI P s w q x cs fs) {p : Nat} (hp : p < 8 * (s * w)) (hw : 0 < w) (hq : q ≤ 8 * w) (hf : fs.getD p false = false) :
    CorI P s w q (x.set (p / 8) (Go.bits .xor .u8 (x.getD (p / 8) 0) ((2 ^ (p % 8) : Nat) : Int))) (if p % (8 * w) < q then cs.set (p / 8 / w) (cs.getD (p / 8 / w) 0 + 1) else cs) (fs.set p true) := by
  obtain ⟨hpe, hr, hc⟩ := place hp hw
  have hj : p % 8 < 8 := Nat.mod_lt _ (by decide)
  have hx := xor_u8 (h.byt.get (p / 8)) hj
  have hfl := h.fl
  have hle := h.len
  refine ⟨by rw [List.length_set]; exact h.len, h.byt.set _ hx.1, ?_, fun j => ?_, ?_, fun c' hc' => ?_, by rw [List.length_set]; exact h.fl⟩
  · rw [getD_set (by omega), if_neg (by omega)]; exact h.last
  · rw [bitAt_set (by omega), getDB_set (by omega)]
    by_cases e : j / 8 = p / 8
    · have hb : (x.getD (p / 8) 0).toNat.testBit (j % 8) = bitAt x j := by unfold bitAt; rw [e]
      rw [if_pos e, hx.2 (j % 8) (Nat.mod_lt _ (by decide)), hb, h.bit j]
      by_cases e2 : j = p
      · subst e2; rw [if_pos rfl, hf, beq_self_eq_true]; cases bitAt P j <;> rfl
      · rw [if_neg e2, beq_eq_false_iff_ne.2 (show j % 8 ≠ p % 8 by omega), Bool.xor_false]
    · rw [if_neg e, if_neg (fun h => e (by rw [h])), h.bit j]
  · split
    · rw [List.length_set]; exact h.cl
    · exact h.cl
  · have hN := h.num c' hc'
    have hcl := h.cl
    by_cases e : c' = p / 8 / w
    · have hfr : fs.getD (8 * (c' * w) + p % (8 * w)) false = false := by rw [e, ← hpe]; exact hf
      have hk : cnt (fun j => (fs.set p true).getD (8 * (c' * w) + j) false) q = cnt (fun j => fs.getD (8 * (c' * w) + j) false) q + (if p % (8 * w) < q then 1 else 0) := by
        rw [← cnt_upd (f := fun j => fs.getD (8 * (c' * w) + j) false) hfr]
        refine cnt_congr fun j hj => ?_
        rw [getDB_set (by omega)]
        rw [← e] at hpe
        by_cases e3 : j = p % (8 * w)
        · rw [if_pos e3, if_pos (by omega)]
        · rw [if_neg e3, if_neg (by omega)]
      rw [hk]
      by_cases hlt : p % (8 * w) < q
      · rw [if_pos hlt, if_pos hlt, getD_set (by omega), if_pos e, ← e, hN]; rfl
      · rw [if_neg hlt, if_neg hlt, hN]; rfl
    · have hk : cnt (fun j => (fs.set p true).getD (8 * (c' * w) + j) false) q = cnt (fun j => fs.getD (8 * (c' * w) + j) false) q := cnt_congr fun j hj => by
        rw [getDB_set (by omega), if_neg]
        intro e4
        rcases Nat.lt_or_gt_of_ne e with h1 | h1
        · have := Nat.mul_le_mul_right w (show c' + 1 ≤ p / 8 / w from h1)
          rw [Nat.succ_mul] at this; omega
        · have := Nat.mul_le_mul_right w (show p / 8 / w + 1 ≤ c' from h1)
          rw [Nat.succ_mul] at this; omega
      rw [hk, ← hN]
      split
      · rw [getD_set (by omega), if_neg e]
      · rfl
theorem cor_sct {a b s n t : Nat} (g : Geo a b s n t) {d : List Int} (hd : Byt d) (hl : d.length = s * n) {x cs : List Int} {fs : List Bool} (h : CorI (pk t n s d ++ [0]) s (wh n t) (8 * n + 13 * t) x cs fs) {c : Nat} (hc : c < s) (ht : cs.getD c 0 ≤ (t : Int)) :
    sct t n (sg (wh n t) x c) = ⟨(d.drop (c * n)).take n, cs.getD c 0, 0⟩ := by
  have hle : (c + 1) * n ≤ s * n := Nat.mul_le_mul_right _ hc
  have hie : (c + 1) * n = c * n + n := Nat.succ_mul c n
  have hDl : ((d.drop (c * n)).take n).length = n := by rw [List.length_take, List.length_drop]; omega
  have hDb : Byt ((d.drop (c * n)).take n) := (hd.drop _).take _
  have hPs : sg (wh n t) (pk t n s d ++ [0]) c = _ := g.pk_seg s d hd hl c hc [0]
  have hSl := g.sg_length h.len hc
  have hSy := sg_byt h.byt (wh n t) c
  have hN := h.num c hc
  have hSb : ∀ j, j < 8 * wh n t → bitAt (sg (wh n t) x c) j = (bitAt ((d.drop (c * n)).take n ++ encm t ((d.drop (c * n)).take n)) j ^^ fs.getD (8 * (c * wh n t) + j) false) := fun j hj => by
    rw [bitAt_sg hj, h.bit, ← hPs, bitAt_sg hj]
  generalize (d.drop (c * n)).take n = D at *
  generalize sg (wh n t) x c = S at *
  generalize hfe : (fun j => fs.getD (8 * (c * wh n t) + j) false) = f at *
  have hSb' : ∀ j, j < 8 * wh n t → bitAt S j = (bitAt (D ++ encm t D) j ^^ f j) := fun j hj => by rw [hSb j hj, ← hfe]
  have hE := (g.enc hDb hDl).2
  have hn4 := g.n4
  have hn5 := g.n512
  have hW : Wok t D (encm t D) := hE.wok g.t1 g.t8 hDb (by omega) (by omega)
  have hW2 := g.wok hSy hSl
  have hwl : wl t D = 13 * t + 8 * n := by unfold wl; rw [hDl]
  have hmb : 13 * t ≤ 8 * mb t := by unfold mb; omega
  have hwd : wh n t = n + mb t := rfl
  have hbl : (S.take n).length = n := by rw [List.length_take]; omega
  obtain ⟨F, hFe⟩ : ∃ F : Ser Bool, F = ⟨fun i => if i < 13 * t then f (8 * n + i) else if i < 13 * t + 8 * n then f (i - 13 * t) else false⟩ := ⟨_, rfl⟩
  have hF1 : ∀ i, i < 13 * t → F.c i = f (8 * n + i) := fun i hi => by rw [hFe]; show (if _ then _ else _) = _; rw [if_pos hi]
  have hF2 : ∀ i, i < 8 * n → F.c (13 * t + i) = f i := fun i hi => by rw [hFe]; show (if _ then _ else _) = _; rw [if_neg (by omega), if_pos (by omega), Nat.add_sub_cancel_left]
  have hF3 : ∀ i, 13 * t + 8 * n ≤ i → F.c i = false := fun i hi => by rw [hFe]; show (if _ then _ else _) = _; rw [if_neg (by omega), if_neg (by omega)]
  have hF : Bd F (wl t D) := fun i hi => hF3 i (by omega)
  have hcnt : cnt F.c (wl t D) = cnt f (8 * n + 13 * t) := by
    rw [hwl, cnt_add, cnt_add, cnt_congr hF1, cnt_congr (f := fun i => F.c (13 * t + i)) hF2, Nat.add_comm]
  have heq : wd t (S.take n) (S.drop n) = wd t D (encm t D) + F := Ser.ext fun i => by
    rw [add_c]
    show (if i < 13 * t then bitAt (S.drop n) i else bitAt (S.take n) (i - 13 * t)) = ((if i < 13 * t then bitAt (encm t D) i else bitAt D (i - 13 * t)) ^^ F.c i)
    by_cases h1 : i < 13 * t
    · rw [if_pos h1, if_pos h1, hF1 i h1, bitAt_drop, hSb' _ (by omega), ← bitAt_drop, List.drop_left' hDl]
    · rw [if_neg h1, if_neg h1]
      by_cases h2 : i < 13 * t + 8 * n
      · have h3 := hF2 (i - 13 * t) (by omega)
        rw [show 13 * t + (i - 13 * t) = i from by omega] at h3
        rw [h3, bitAt_take (by omega), hSb' _ (by omega), ← bitAt_take (n := n) (by omega), List.take_left' hDl]
      · rw [hF3 i (by omega), bitAt_high (by omega), bitAt_high (by omega)]; rfl
  have hco := corrects hW (hE.code g.t8) hE.up hW2 (by rw [hbl, hDl]) F hF heq (by rw [hcnt]; omega)
  unfold sct
  rw [dec_run hW2 hco, hN, hcnt]
/-- The greatest of some numbers, and of y. -/
def mxs (C : Nat → Int) : Nat → Nat → Int → Int
  | 0, _, y => y
  | m + 1, i, y => mxs C m (i + 1) (mx y (C i))
theorem cor_rdl {s n w t : Nat} {d R : List Int} (hl : d.length = s * n) {C : Nat → Int} (h : ∀ i, i < s → sct t n (sg w R i) = ⟨(d.drop (i * n)).take n, C i, 0⟩) : ∀ (m i : Nat) (x : List Int) (y : Int), i + m = s → rdl (scts t n w R m i) x y = (x ++ d.drop (i * n), mxs C m i y, 0)
  | 0, i, x, y, hi => by
    rw [scts, rdl, mxs, List.drop_of_length_le (by rw [hl, show i = s from hi]; exact Nat.le_refl _), List.append_nil]
  | m + 1, i, x, y, hi => by
    rw [scts, rdl, h i (by omega)]
    dsimp only
    rw [if_pos rfl, cor_rdl hl h m (i + 1) _ _ (by omega), mxs, List.append_assoc, show (i + 1) * n = i * n + n from Nat.succ_mul i n, ← List.drop_drop, List.take_append_drop]
theorem cor_l1 {a b s n t : Nat} (g : Geo a b s n t) {d x cs : List Int} (hcl : cs.length = s) {Y : Int} (hE : (∀ c, c < s → cs.getD c 0 ≤ (t : Int)) → Evt fun k => ecc_Read.f k a b s n t x = some (d, Y, 0)) :
    ∀ (m i : Nat) (y : Int), i + m = s → mxs (fun c => cs.getD c 0) m i y = Y → (∀ c, c < i → cs.getD c 0 ≤ (t : Int)) → Evt fun k => casematelaw06_EccCorrects.l1 k d x cs y (i : Int) a b s n t = some true
  | 0, i, y, hi, hy, hc => ((hE (fun c h => hc c (by omega))).and awake).step fun k ⟨q1, q2⟩ => by
    rw [casematelaw06_EccCorrects.l1, if_neg (by rw [hcl]; omega), q1, Option.bind_some, q2, Option.bind_some, if_pos rfl]
    dsimp only
    rw [if_pos rfl, if_pos rfl, ← hy, mxs]
    simp
  | m + 1, i, y, hi, hy, hc => by
    have hs8 := g.s8
    have e0 : wrap64 ((i : Int) + 1) = ((i + 1 : Nat) : Int) := by rw [w64 (by omega) (by omega)]; rfl
    by_cases h : cs.getD i 0 > (t : Int)
    · refine Evt.of 0 fun k hk => ?_
      obtain ⟨k, rfl⟩ := fuel hk
      rw [casematelaw06_EccCorrects.l1, if_pos (by rw [hcl]; clear e0; omega), if_pos (by clear e0; omega), rd_nat, if_pos h]
    · refine (cor_l1 g hcl hE m (i + 1) (mx y (cs.getD i 0)) (by clear e0; omega) (by rw [← hy, mxs]) (fun c h2 => by
        by_cases e : c = i
        · rw [e]; clear e0; omega
        · exact hc c (by clear e0; omega))).step fun k q => ?_
      rw [casematelaw06_EccCorrects.l1, if_pos (by rw [hcl]; clear e0; omega), if_pos (by clear e0; omega), rd_nat, if_neg h, e0]
      exact q
theorem cor_j3 (a b s n t : Nat) (d x2 x : List Int) (w : Int) (cs : List Int) (fs : List Bool) (i v : Int) : Evt fun k => casematelaw06_EccCorrects.j3 k d x2 x w cs fs i v true a b s n t = some true := Evt.of 0 fun k hk => by
  obtain ⟨k, rfl⟩ := fuel hk
  rw [casematelaw06_EccCorrects.j3, if_pos rfl]
theorem cor_l0 {a b s n t : Nat} (g : Geo a b s n t) {d P : List Int} (x2 : List Int) (hx2 : x2.length ≤ 1000) (hE : ∀ (x cs : List Int) (fs : List Bool), CorI P s (wh n t) (8 * n + 13 * t) x cs fs → Evt fun k => casematelaw06_EccCorrects.l1 k d x cs 0 0 a b s n t = some true) :
    ∀ (e i : Nat) (x cs : List Int) (fs : List Bool), i + e = x2.length → CorI P s (wh n t) (8 * n + 13 * t) x cs fs → Evt fun k => casematelaw06_EccCorrects.l0 k d x2 x (wh n t : Int) cs fs (i : Int) a b s n t = some true
  | 0, i, x, cs, fs, hi, h => (hE x cs fs h).step fun k q => by
    rw [casematelaw06_EccCorrects.l0, if_neg (by omega)]; exact q
  | e + 1, i, x, cs, fs, hi, h => by
    have hsw := g.sw
    have hw5 := g.wh_le
    have hlen := h.len
    have hfl := h.fl
    have hcl := h.cl
    have e1 : wrap64 (8 * wrap64 ((x.length : Int) - 1)) = ((8 * (s * wh n t) : Nat) : Int) := by
      rw [hlen, w64 (n := ((s * wh n t + 1 : Nat) : Int) - 1) (by omega) (by omega), w64 (by omega) (by omega)]; omega
    have hrd : rd x2 (i : Int) = x2.getD i 0 := rd_nat x2 i
    by_cases h0 : x2.getD i 0 < 0
    · refine (cor_j3 a b s n t d x2 x (wh n t : Int) cs fs (i : Int) (x2.getD i 0)).step fun k q => ?_
      rw [casematelaw06_EccCorrects.l0, if_pos (by clear e1; omega), if_pos (by clear e1; omega), hrd, if_pos h0]
      exact q
    · by_cases h1 : x2.getD i 0 ≥ ((8 * (s * wh n t) : Nat) : Int)
      · refine (cor_j3 a b s n t d x2 x (wh n t : Int) cs fs (i : Int) (x2.getD i 0)).step fun k q => ?_
        rw [casematelaw06_EccCorrects.l0, if_pos (by clear e1; omega), if_pos (by clear e1; omega), hrd, if_neg h0, e1, if_pos h1]
        exact q
      · obtain ⟨p, hp⟩ : ∃ p : Nat, x2.getD i 0 = (p : Int) := ⟨(x2.getD i 0).toNat, by omega⟩
        rw [hp] at h0 h1
        have hp2 : p < 8 * (s * wh n t) := by clear e1; omega
        have hj : Evt fun k => casematelaw06_EccCorrects.j3 k d x2 x (wh n t : Int) cs fs (i : Int) (p : Int) (fs.getD p false) a b s n t = some true := by
          by_cases hf : fs.getD p false = true
          · rw [hf]; exact cor_j3 a b s n t d x2 x (wh n t : Int) cs fs (i : Int) (p : Int)
          · replace hf := Bool.eq_false_iff.2 hf
            obtain ⟨hpe, hr, hc⟩ := place hp2 (by omega)
            have hmb : 13 * t ≤ 8 * mb t := by unfold mb; omega
            have hwd : wh n t = n + mb t := rfl
            have ht8 := g.t8
            have hn5 := g.n512
            have e0 : wrap64 ((i : Int) + 1) = ((i + 1 : Nat) : Int) := by clear e1; rw [w64 (by omega) (by omega)]; rfl
            have ih := cor_l0 g x2 hx2 hE e (i + 1) _ _ _ (by clear e1 e0; omega) (h.step hp2 (by clear e1 e0; omega) (by clear e1 e0; omega) hf)
            have e2 : wrap64 (Int.tdiv (p : Int) 8) = ((p / 8 : Nat) : Int) := by
              clear e1 e0
              have : Int.tdiv (p : Int) 8 = ((p / 8 : Nat) : Int) := by rw [Int.tdiv_eq_ediv_of_nonneg (by omega)]; omega
              rw [this, w64 (by omega) (by omega)]
            have e3 : Int.tmod (p : Int) 8 = ((p % 8 : Nat) : Int) := by
              clear e1 e0 e2
              rw [Int.tmod_eq_emod_of_nonneg (by omega)]; omega
            have e4 : wrap64 (8 * (wh n t : Int)) = ((8 * wh n t : Nat) : Int) := by clear e1 e0 e2 e3; rw [w64 (by omega) (by omega)]; omega
            have e5 : Int.tmod (p : Int) ((8 * wh n t : Nat) : Int) = ((p % (8 * wh n t) : Nat) : Int) := by
              rw [Int.tmod_eq_emod_of_nonneg (Int.natCast_nonneg _)]; rfl
            have e6 : wrap64 (wrap64 (8 * (n : Int)) + wrap64 (13 * (t : Int))) = ((8 * n + 13 * t : Nat) : Int) := by
              clear e1 e0 e2 e3 e4 e5
              rw [w64 (n := 8 * (n : Int)) (by omega) (by omega), w64 (n := 13 * (t : Int)) (by omega) (by omega), w64 (by omega) (by omega)]; omega
            have e7 : wrap64 (Int.tdiv ((p / 8 : Nat) : Int) (wh n t : Int)) = ((p / 8 / wh n t : Nat) : Int) := by
              have : Int.tdiv ((p / 8 : Nat) : Int) (wh n t : Int) = ((p / 8 / wh n t : Nat) : Int) := by rw [Int.tdiv_eq_ediv_of_nonneg (Int.natCast_nonneg _)]; rfl
              clear e1 e0 e2 e3 e4 e5 e6
              have hcI := Int.ofNat_lt.2 hc
              have hcN := Int.natCast_nonneg (p / 8 / wh n t)
              have hs8 := g.s8
              rw [this]
              generalize ((p / 8 / wh n t : Nat) : Int) = u at hcI hcN ⊢
              exact w64 (by omega) (by omega)
            have hn0 : cs.getD (p / 8 / wh n t) 0 = _ := h.num _ hc
            have hn1 := cnt_le (fun j => fs.getD (8 * (p / 8 / wh n t * wh n t) + j) false) (8 * n + 13 * t)
            have e8 : wrap64 (cs.getD (p / 8 / wh n t) 0 + 1) = cs.getD (p / 8 / wh n t) 0 + 1 := by
              clear e1 e0 e2 e3 e4 e5 e6 e7
              rw [hn0]
              exact w64 (by omega) (by omega)
            refine ((trn (show p % 8 < 8 from Nat.mod_lt _ (by decide))).and ih).step fun k ⟨q1, q2⟩ => ?_
            rw [casematelaw06_EccCorrects.j3, hf, if_neg (by decide), if_pos (Int.natCast_nonneg _), if_pos (by clear e1 e0 e2 e3 e4 e5 e6 e7 e8; omega), Option.bind_some, e2, if_pos (Int.natCast_nonneg _), if_pos (by clear e1 e0 e2 e3 e4 e5 e6 e7 e8; omega), e3, q1, Option.bind_some, Option.bind_some, e4, if_neg (by clear e1 e0 e2 e3 e4 e5 e6 e7 e8; omega), e5, e6]
            by_cases hlt : p % (8 * wh n t) < 8 * n + 13 * t
            · rw [if_pos hlt] at q2
              rw [if_pos (by clear e1 e0 e2 e3 e4 e5 e6 e7 e8; omega), if_neg (by clear e1 e0 e2 e3 e4 e5 e6 e7 e8; omega), e7, if_pos (Int.natCast_nonneg _), if_pos (by clear e1 e0 e2 e3 e4 e5 e6 e7 e8; omega), Int.toNat_natCast, Int.toNat_natCast, Int.toNat_natCast, rd_nat, rd_nat, e8, e0]
              exact q2
            · rw [if_neg hlt] at q2
              rw [if_neg (by clear e1 e0 e2 e3 e4 e5 e6 e7 e8; omega), Int.toNat_natCast, Int.toNat_natCast, rd_nat, e0]
              exact q2
        refine hj.step fun k q => ?_
        rw [casematelaw06_EccCorrects.l0, if_pos (by clear e1; omega), if_pos (by clear e1; omega), hrd, hp, if_neg h0, e1, if_neg h1, if_pos (Int.natCast_nonneg _), if_pos (by clear e1; omega)]
        have : rdOf false fs (p : Int) = fs.getD p false := by unfold rdOf; rw [Int.toNat_natCast]
        rw [this]
        exact q
theorem EccCorrects (a b s n t : Int) (d : List Int) (hd : Byt d) (x2 : List Int) (hw2 : ∀ x ∈ x2, (Lit.int .i64 x).wf = true) : ∃ k, casematelaw06_EccCorrects.f k a b s n t d x2 = some true := by
  refine Evt.get ?_
  have hT : Evt fun k => casematelaw06_EccCorrects.j0 k d x2 true a b s n t = some true := Evt.of 0 fun k hk => by
    obtain ⟨k, rfl⟩ := fuel hk
    rw [casematelaw06_EccCorrects.j0, if_pos rfl]
  by_cases hM : MayI a b s n t
  · obtain ⟨a, b, s, n, t, rfl, rfl, rfl, rfl, rfl, g⟩ := hM.geo
    by_cases hs : s * n ≤ 64
    · by_cases hl : d.length = s * n
      · by_cases hx : (x2.length : Int) > 200
        · refine hT.mono fun k h => ?_
          unfold casematelaw06_EccCorrects.f
          rw [small_geo g, Option.bind_some, if_pos (decide_eq_true hs), r6_May, Option.bind_some, if_pos (decide_eq_true g.may), g.r_room, Option.bind_some, if_pos (by rw [hl]), decide_eq_true hx]
          exact h
        · obtain ⟨hR1, hR2⟩ := raw_len g hd hl
          have hsw := g.sw
          have hs8 := g.s8
          have hlast : (pk t n s d ++ [0]).getD (s * wh n t) 0 = 0 := by
            rw [List.getD_eq_getElem?_getD, List.getElem?_append_right (by rw [(g.pk_length s d hd hl).1]; exact Nat.le_refl _), (g.pk_length s d hd hl).1, Nat.sub_self]; rfl
          have hbf : ∀ m j, (List.replicate m false).getD j false = false := fun m j => by
            rw [List.getD_eq_getElem?_getD, List.getElem?_replicate]; split <;> rfl
          have hI : CorI (pk t n s d ++ [0]) s (wh n t) (8 * n + 13 * t) (pk t n s d ++ [0]) (List.replicate s 0) (List.replicate (8 * (s * wh n t + 1)) false) := by
            refine ⟨hR1, hR2, hlast, fun j => by rw [hbf, Bool.xor_false], List.length_replicate, fun c hc => ?_, List.length_replicate⟩
            rw [cnt_none fun j _ => hbf _ _, List.getD_eq_getElem?_getD, List.getElem?_replicate, if_pos hc]; rfl
          have hl0 := cor_l0 g (d := d) (P := pk t n s d ++ [0]) x2 (by omega) (fun x cs fs h => cor_l1 g h.cl (Y := mxs (fun c => cs.getD c 0) s 0 0) (fun hc => by
            have hsay : says s (wh n t) t x = 0 := by unfold says; rw [if_pos h.last]
            refine (g.read h.byt h.len).mono fun k q => ?_
            rw [q, rea, if_pos hsay, cor_rdl hl (C := fun c => cs.getD c 0) (fun i hi => cor_sct g hd hl h hi (hc i hi)) s 0 [] 0 (by omega), Nat.zero_mul, List.drop_zero, List.nil_append]) s 0 0 (by omega) rfl (fun c h => absurd h (Nat.not_lt_zero _))) x2.length 0 (pk t n s d ++ [0]) (List.replicate s 0) (List.replicate (8 * (s * wh n t + 1)) false) (by omega) hI
          have e1 : wrap64 (8 * (((pk t n s d ++ [0]).length : Nat) : Int)) = ((8 * (s * wh n t + 1) : Nat) : Int) := by
            rw [hR1, w64 (by omega) (by omega)]; omega
          have hj1 : Evt fun k => casematelaw06_EccCorrects.j1 k d x2 (pk t n s d ++ [0]) false a b s n t = some true := hl0.step fun k q => by
            rw [casematelaw06_EccCorrects.j1, if_neg (by decide), g.r_whole, Option.bind_some, if_pos (Int.natCast_nonneg _), if_pos (by rw [Int.toNat_natCast]; clear e1; omega), e1, if_pos (Int.natCast_nonneg _), Int.toNat_natCast, Int.toNat_natCast, if_pos (by clear e1; omega)]
            exact q
          have hj0 : Evt fun k => casematelaw06_EccCorrects.j0 k d x2 false a b s n t = some true := ((g.pack hd hl).and hj1).step fun k ⟨q1, q2⟩ => by
            rw [casematelaw06_EccCorrects.j0, if_neg (by decide), q1, Option.bind_some, if_pos rfl, g.r_raw, Option.bind_some, hR1, bne_self]
            exact q2
          refine hj0.mono fun k h => ?_
          unfold casematelaw06_EccCorrects.f
          rw [small_geo g, Option.bind_some, if_pos (decide_eq_true hs), r6_May, Option.bind_some, if_pos (decide_eq_true g.may), g.r_room, Option.bind_some, if_pos (by rw [hl]), decide_eq_false hx]
          exact h
      · refine hT.mono fun k h => ?_
        unfold casematelaw06_EccCorrects.f
        rw [small_geo g, Option.bind_some, if_pos (decide_eq_true hs), r6_May, Option.bind_some, if_pos (decide_eq_true g.may), g.r_room, Option.bind_some, if_neg (by omega)]
        exact h
    · refine hT.mono fun k h => ?_
      unfold casematelaw06_EccCorrects.f
      rw [small_geo g, Option.bind_some, if_neg (by rw [decide_eq_false hs]; decide)]
      exact h
  · refine hT.mono fun k h => ?_
    unfold casematelaw06_EccCorrects.f
    rw [small_no hM, Option.bind_some, if_pos rfl, r6_May, Option.bind_some, if_neg (by rw [decide_eq_false hM]; decide)]
    exact h
end Go.Proofs.Ytfpdloccmneabaa.Pure
