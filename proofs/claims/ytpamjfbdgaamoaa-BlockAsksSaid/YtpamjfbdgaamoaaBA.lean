/- Blocks of samples, on lists of bytes. -/
import Derived.Test.YtpamjfbdgaamoaaZ
import Derived.Test.YtpamjfbdgaamoaaTR
import Derived.Test.YtpamjfbdgaamoaaFB
namespace Go.Proofs.Ytpamjfbdgaamoaa
abbrev wr (x : Int) : Int := IntKind.i64.wrap x
theorem wr_r (x : Int) : i64R (wr x) := by show i64R (IntKind.i64.wrap x); rw [IntKind.wrap_i64]; omega
theorem wr_id {x : Int} (h : i64R x) : wr x = x := by show IntKind.i64.wrap x = x; rw [IntKind.wrap_i64]; omega
theorem wr_sub {a b c : Int} (ha : i64R a) (hb : i64R b) (h : wr (a - c) = wr (b - c)) : a = b := by
  have h : IntKind.i64.wrap (a - c) = IntKind.i64.wrap (b - c) := h
  rw [IntKind.wrap_i64, IntKind.wrap_i64] at h; omega
theorem wr_back {a c : Int} (ha : i64R a) : wr (c + wr (a - c)) = a := by
  show IntKind.i64.wrap (c + IntKind.i64.wrap (a - c)) = a
  rw [IntKind.wrap_i64, IntKind.wrap_i64]; omega
theorem wr_add {a b : Int} : wr (a + wr b) = wr (a + b) := by
  show IntKind.i64.wrap (a + IntKind.i64.wrap b) = IntKind.i64.wrap (a + b)
  rw [IntKind.wrap_i64, IntKind.wrap_i64, IntKind.wrap_i64]; omega
abbrev zz (m : Int) : List UInt8 := put (zig m)
theorem zz_length (m : Int) : 1 ≤ (zz m).length ∧ (zz m).length ≤ 10 := put_length (zig m)
theorem zig_r {m : Int} (h : i64R m) : 0 ≤ zig m ∧ zig m ≤ 18446744073709551615 := by have := zig_cases m; omega
theorem zag_r {n : Int} (h0 : 0 ≤ n) (h1 : n ≤ 18446744073709551615) : i64R (zag n) := by have := zag_cases n; omega
theorem zig_inj {a b : Int} (h : zig a = zig b) : a = b := by have := congrArg zag h; rwa [zag_zig, zag_zig] at this
theorem put_split {a b : Int} {x y : List UInt8} (a0 : 0 ≤ a) (a1 : a ≤ 18446744073709551615) (b0 : 0 ≤ b) (b1 : b ≤ 18446744073709551615) (h : put a ++ x = put b ++ y) : a = b ∧ x = y := by
  have h1 := getG_put a0 a1 x
  have h2 := getG_put b0 b1 y
  rw [h] at h1
  rw [h1] at h2
  simp only [Option.some.injEq, Prod.mk.injEq] at h2
  have e : a = b := by omega
  subst e
  exact ⟨rfl, List.append_cancel_left h⟩
theorem zz_split {a b : Int} {x y : List UInt8} (ha : i64R a) (hb : i64R b) (h : zz a ++ x = zz b ++ y) : a = b ∧ x = y := by
  have h1 := zig_r ha
  have h2 := zig_r hb
  obtain ⟨e, h3⟩ := put_split h1.1 h1.2 h2.1 h2.2 h
  exact ⟨zig_inj e, h3⟩
/-- What stands at a place. -/
theorem get_here {b rest : List UInt8} {n p : Int} (h0 : 0 ≤ n) (h1 : n ≤ 18446744073709551615) (p0 : 0 ≤ p) (p1 : p ≤ (b.length : Int)) (h : b.drop p.toNat = put n ++ rest) :
    get b p = (n, p + ((put n).length : Int), 0) ∧ b.drop (p + ((put n).length : Int)).toNat = rest ∧ p + ((put n).length : Int) ≤ (b.length : Int) := by
  have e : b = b.take p.toNat ++ (put n ++ rest) := by rw [← h, List.take_append_drop]
  have hl : (b.take p.toNat).length = p.toNat := by rw [List.length_take]; omega
  have hlen := congrArg List.length h
  simp only [List.length_drop, List.length_append] at hlen
  refine ⟨get_at h0 h1 e (by rw [hl]; omega), ?_, by omega⟩
  have e2 : (p + ((put n).length : Int)).toNat = p.toNat + (put n).length := by omega
  rw [e2, ← List.drop_drop, h, List.drop_left]
theorem get_zz {b rest : List UInt8} {m p : Int} (hm : i64R m) (p0 : 0 ≤ p) (p1 : p ≤ (b.length : Int)) (h : b.drop p.toNat = zz m ++ rest) :
    zag (get b p).1 = m ∧ (get b p).2.2 = 0 ∧ b.drop (get b p).2.1.toNat = rest ∧ p ≤ (get b p).2.1 ∧ (get b p).2.1 ≤ (b.length : Int) := by
  have hz := zig_r hm
  obtain ⟨h1, h2, h3⟩ := get_here hz.1 hz.2 p0 p1 h
  rw [h1]
  exact ⟨zag_zig m, rfl, h2, by simp only []; omega, h3⟩
theorem get_pp {b rest : List UInt8} {n p : Int} (h0 : 0 ≤ n) (h1 : n ≤ 18446744073709551615) (p0 : 0 ≤ p) (p1 : p ≤ (b.length : Int)) (h : b.drop p.toNat = put n ++ rest) :
    (get b p).1 = n ∧ (get b p).2.2 = 0 ∧ b.drop (get b p).2.1.toNat = rest ∧ p ≤ (get b p).2.1 ∧ (get b p).2.1 ≤ (b.length : Int) := by
  obtain ⟨h1, h2, h3⟩ := get_here h0 h1 p0 p1 h
  rw [h1]
  exact ⟨rfl, rfl, h2, by simp only []; omega, h3⟩
/-! ### Samples -/
def stepS : Int → Int → Int → List Sample → List UInt8
  | _, _, _, [] => []
  | T, V, st, s :: l => zz (s.T - T - st) ++ (zz (wr (s.V - V)) ++ stepS s.T s.V (s.T - T) l)
def bodyS : List Sample → List UInt8
  | [] => []
  | s :: l => put s.T ++ (zz s.V ++ stepS s.T s.V 0 l)
def putS (l : List Sample) : List UInt8 := put (l.length : Int) ++ bodyS l
def okS (l : List Sample) : Bool := risingA l && decide (l.length ≤ 64)
def encS (l : List Sample) : List UInt8 × Int := if okS l = true then (putS l, 0) else ([], 1)
theorem okS_iff {l : List Sample} : okS l = true ↔ risingA l = true ∧ l.length ≤ 64 := by unfold okS; simp
theorem encS_no {l : List Sample} (h : risingA l = false ∨ 64 < (l.length : Int)) : encS l = ([], 1) := by
  unfold encS; rw [if_neg]; rw [okS_iff]; rintro ⟨h1, h2⟩
  rcases h with h | h
  · rw [h1] at h; cases h
  · omega
theorem encS_yes {l : List Sample} (h : okS l = true) : encS l = (putS l, 0) := if_pos h
/-- Times in range. -/
abbrev tR (t : Int) : Prop := 0 ≤ t ∧ t ≤ 1099511627776
theorem rises_tR : ∀ (l : List Sample) (last : Int), -1 ≤ last → risesFrom last l = true → ∀ s ∈ l, tR s.T
  | [], _, _, _, s, hs => by cases hs
  | t :: l, last, hl, h, s, hs => by
    rw [risesFrom] at h
    simp only [Bool.and_eq_true, decide_eq_true_eq] at h
    rcases List.mem_cons.1 hs with rfl | hs
    · exact ⟨by omega, by omega⟩
    · exact rises_tR l t.T (by omega) h.2 s hs
theorem rising_tR {l : List Sample} (h : risingA l = true) : ∀ s ∈ l, tR s.T := rises_tR l (-1) (by decide) h
theorem stepS_split : ∀ (l l' : List Sample) {T V st : Int} {r r' : List UInt8}, tR T → (-1099511627776 ≤ st ∧ st ≤ 1099511627776) → (∀ s ∈ l, tR s.T ∧ i64R s.V) → (∀ s ∈ l', tR s.T ∧ i64R s.V) → l.length = l'.length →
    stepS T V st l ++ r = stepS T V st l' ++ r' → l = l' ∧ r = r'
  | [], [], _, _, _, _, _, _, _, _, _, _, h => ⟨rfl, h⟩
  | [], _ :: _, _, _, _, _, _, _, _, _, _, hl, _ => by simp at hl
  | _ :: _, [], _, _, _, _, _, _, _, _, _, hl, _ => by simp at hl
  | s :: l, u :: l', T, V, st, r, r', hT, hst, h1, h2, hl, h => by
    have a := h1 s (List.mem_cons_self ..)
    have b := h2 u (List.mem_cons_self ..)
    rw [stepS, stepS, List.append_assoc, List.append_assoc, List.append_assoc, List.append_assoc] at h
    obtain ⟨e1, h⟩ := zz_split (by omega) (by omega) h
    obtain ⟨e2, h⟩ := zz_split (wr_r _) (wr_r _) h
    have eT : s.T = u.T := by omega
    have eV : s.V = u.V := wr_sub a.2 b.2 e2
    rw [eT, eV] at h
    obtain ⟨e3, e4⟩ := stepS_split l l' b.1 (by omega) (fun x hx => h1 x (List.mem_cons_of_mem _ hx)) (fun x hx => h2 x (List.mem_cons_of_mem _ hx)) (by simpa using hl) h
    refine ⟨?_, e4⟩
    rw [e3]; congr 1
    cases s; cases u; simp_all
theorem putS_split {l l' : List Sample} {r r' : List UInt8} (h1 : okS l = true) (h2 : okS l' = true) (o1 : ∀ s ∈ l, s.ok) (o2 : ∀ s ∈ l', s.ok) (h : putS l ++ r = putS l' ++ r') : l = l' ∧ r = r' := by
  have k1 := okS_iff.1 h1
  have k2 := okS_iff.1 h2
  have t1 := rising_tR k1.1
  have t2 := rising_tR k2.1
  unfold putS at h
  rw [List.append_assoc, List.append_assoc] at h
  obtain ⟨e, h⟩ := put_split (by omega) (by omega) (by omega) (by omega) h
  cases l with
  | nil =>
    cases l' with
    | nil => exact ⟨rfl, h⟩
    | cons u l' => simp at e; omega
  | cons s l =>
    cases l' with
    | nil => simp at e; omega
    | cons u l' =>
      have a := t1 s (List.mem_cons_self ..)
      have b := t2 u (List.mem_cons_self ..)
      rw [bodyS, bodyS, List.append_assoc, List.append_assoc, List.append_assoc, List.append_assoc] at h
      obtain ⟨e1, h⟩ := put_split (by omega) (by omega) (by omega) (by omega) h
      obtain ⟨e2, h⟩ := zz_split (o1 s (List.mem_cons_self ..)).2 (o2 u (List.mem_cons_self ..)).2 h
      rw [e1, e2] at h
      obtain ⟨e3, e4⟩ := stepS_split l l' b ⟨by decide, by decide⟩ (fun x hx => ⟨t1 x (List.mem_cons_of_mem _ hx), (o1 x (List.mem_cons_of_mem _ hx)).2⟩) (fun x hx => ⟨t2 x (List.mem_cons_of_mem _ hx), (o2 x (List.mem_cons_of_mem _ hx)).2⟩) (by simp at e; omega) h
      refine ⟨?_, e4⟩
      rw [e3]; congr 1
      cases s; cases u; simp_all
/-- What is told by the bytes: the samples, and whether they are any (0, 2). -/
def DecS (b : List UInt8) (l : List Sample) (c : Int) : Prop :=
  (∀ s ∈ l, s.ok) ∧ ((c = 0 ∧ okS l = true ∧ putS l = b) ∨ (c = 2 ∧ l = [] ∧ ∀ l0, okS l0 = true → (∀ s ∈ l0, s.ok) → putS l0 ≠ b))
theorem decS_one {b : List UInt8} {l l' : List Sample} {c c' : Int} (h : DecS b l c) (h' : DecS b l' c') : l = l' ∧ c = c' := by
  obtain ⟨o, h⟩ := h
  obtain ⟨o', h'⟩ := h'
  rcases h with ⟨rfl, h1, h2⟩ | ⟨rfl, rfl, h1⟩
  · rcases h' with ⟨rfl, h3, h4⟩ | ⟨rfl, rfl, h3⟩
    · exact ⟨(putS_split (r := []) (r' := []) h1 h3 o o' (by rw [List.append_nil, List.append_nil, h2, h4])).1, rfl⟩
    · exact absurd h2 (h3 l h1 o)
  · rcases h' with ⟨rfl, h3, h4⟩ | ⟨rfl, rfl, h3⟩
    · exact absurd h4 (h1 l' h3 o')
    · exact ⟨rfl, rfl⟩
theorem decS_put {l l' : List Sample} {c : Int} (h : DecS (putS l) l' c) (hl : okS l = true) (ho : ∀ s ∈ l, s.ok) : l' = l ∧ c = 0 :=
  decS_one h ⟨ho, Or.inl ⟨rfl, hl, rfl⟩⟩
theorem decS_cut {l l' : List Sample} {c : Int} {n : Nat} (h : DecS ((putS l).take n) l' c) (hl : okS l = true) (ho : ∀ s ∈ l, s.ok) (hn : n < (putS l).length) : c = 2 ∧ l' = [] := by
  obtain ⟨o, h | h⟩ := h
  · exfalso
    have h2 := (putS_split (r := (putS l).drop n) (r' := []) h.2.1 hl o ho (by rw [h.2.2, List.take_append_drop, List.append_nil])).2
    have := congrArg List.length h2
    simp at this; omega
  · exact ⟨h.1, h.2.1⟩
theorem decS_more {l l' : List Sample} {c : Int} {x : List UInt8} (h : DecS (putS l ++ x) l' c) (hl : okS l = true) (ho : ∀ s ∈ l, s.ok) (hx : x ≠ []) : c = 2 ∧ l' = [] := by
  obtain ⟨o, h | h⟩ := h
  · exfalso
    have h2 := (putS_split (r := []) (r' := x) h.2.1 hl o ho (by rw [h.2.2, List.append_nil])).2
    exact hx h2.symm
  · exact ⟨h.1, h.2.1⟩
/-- What is to be put from the place i on. -/
def restS (l : List Sample) (i : Nat) (st : Int) : List UInt8 :=
  if i = 0 then bodyS l else stepS (l.getD (i - 1) ⟨0, 0⟩).T (l.getD (i - 1) ⟨0, 0⟩).V st (l.drop i)
theorem getD_is {α : Type} {l : List α} {i : Nat} {d : α} (h : i < l.length) : l.getD i d = l[i] := by rw [List.getD_eq_getElem?_getD, List.getElem?_eq_getElem h]; rfl
theorem restS_zero {l : List Sample} {st : Int} : restS l 0 st = bodyS l := rfl
theorem restS_first {l : List Sample} {i : Nat} (hi : i = 0) (h : i < l.length) (st : Int) : restS l i st = put (l[i]'h).T ++ (zz (l[i]'h).V ++ restS l (i + 1) 0) := by
  subst hi
  cases l with
  | nil => simp at h
  | cons s l => rfl
theorem restS_next {l : List Sample} {i : Nat} (hi : 0 < i) (h : i < l.length) (st : Int) : restS l i st = zz ((l[i]'h).T - (l[i - 1]'(by omega)).T - st) ++ (zz (wr ((l[i]'h).V - (l[i - 1]'(by omega)).V)) ++ restS l (i + 1) ((l[i]'h).T - (l[i - 1]'(by omega)).T)) := by
  unfold restS
  rw [if_neg (by omega), if_neg (by omega), getD_is (by omega : i - 1 < l.length), List.drop_eq_getElem_cons h, stepS]
  have e : i + 1 - 1 = i := by omega
  rw [e, getD_is h]
theorem restS_end {l : List Sample} {i : Nat} (h : i = l.length) (st : Int) : restS l i st = [] := by
  unfold restS
  split
  · rename_i h0; rw [h0] at h; rw [List.eq_nil_of_length_eq_zero h.symm]; rfl
  · rw [List.drop_eq_nil_of_le (by omega)]; rfl
theorem putS_len : ∀ (l : List Sample) (i : Nat) (st : Int), (restS l i st).length ≤ 20 * (l.length - i) := by
  intro l i
  generalize hn : l.length - i = n
  induction n generalizing i with
  | zero =>
    intro st
    by_cases h0 : i = 0
    · subst h0; rw [List.eq_nil_of_length_eq_zero (by omega : l.length = 0)]; simp [restS, bodyS]
    · unfold restS; rw [if_neg h0, List.drop_eq_nil_of_le (by omega)]; simp [stepS]
  | succ n ih =>
    intro st
    by_cases h0 : i = 0
    · rw [restS_first h0 (by omega)]
      have h1 := put_length (l[i]'(by omega)).T
      have h2 := zz_length (l[i]'(by omega)).V
      have h3 := ih (i + 1) (by omega) 0
      simp only [List.length_append]; omega
    · rw [restS_next (by omega) (by omega)]
      have h1 := zz_length ((l[i]'(by omega)).T - (l[i - 1]'(by omega)).T - st)
      have h2 := zz_length (wr ((l[i]'(by omega)).V - (l[i - 1]'(by omega)).V))
      have h3 := ih (i + 1) (by omega) ((l[i]'(by omega)).T - (l[i - 1]'(by omega)).T)
      simp only [List.length_append]; omega

def cntV (b : List UInt8) (p most : Int) : Int := if most < (get b p).1 then 0 else (get b p).1
def cntBad (bad : Bool) (b : List UInt8) (p most : Int) : Bool := rbad bad b p || decide (most < (get b p).1)
theorem cntV_no {b : List UInt8} {p most : Int} (h : ¬ most < (get b p).1) : (get b p).1 = cntV b p most := by unfold cntV; rw [if_neg h]
theorem cntV_yes {b : List UInt8} {p most : Int} (h : most < (get b p).1) : 0 = cntV b p most := by unfold cntV; rw [if_pos h]
theorem cntV_r {b : List UInt8} {p most : Int} (hm : 0 ≤ most) : 0 ≤ cntV b p most ∧ cntV b p most ≤ most := by
  have := get_nn b p
  unfold cntV; split <;> omega
theorem rbad_of {b : List UInt8} {p : Int} (h : (get b p).2.2 = 0) : rbad false b p = false := by unfold rbad; rw [h]; rfl
/-- The state of the reading of samples: i of n were read. -/
def CS (b : List UInt8) (n : Int) (out : List Sample) (i : Nat) (p : Int) (bad : Bool) (st : Int) : Prop :=
  (0 ≤ p ∧ p ≤ (b.length : Int)) ∧ (i ≠ 0 ∨ st = 0) ∧ i64R st ∧ out.length = i ∧ (∀ s ∈ out, s.ok) ∧
  ∀ l0, okS l0 = true → (∀ s ∈ l0, s.ok) → putS l0 = b → bad = false ∧ n = (l0.length : Int) ∧ out = l0.take i ∧ b.drop p.toNat = restS l0 i st ∧ (-1099511627776 ≤ st ∧ st ≤ 1099511627776)
theorem CS_start {b : List UInt8} : CS b (cntV b 0 64) [] 0 (get b 0).2.1 (cntBad false b 0 64) 0 := by
  have h0 := get_to (b := b) (p := 0) (by omega) (by omega)
  refine ⟨⟨by omega, h0.2⟩, Or.inr rfl, by decide, rfl, (by intro s hs; cases hs), fun l0 h1 h2 h3 => ?_⟩
  have h4 := (okS_iff.1 h1).2
  obtain ⟨g1, g2, g3, _, _⟩ := get_pp (b := b) (rest := bodyS l0) (n := (l0.length : Int)) (p := 0) (by omega) (by omega) (by omega) (by omega) (by rw [← h3]; rfl)
  refine ⟨?_, ?_, rfl, g3, by omega, by omega⟩
  · unfold cntBad; rw [rbad_of g2, g1]; simp; omega
  · unfold cntV; rw [g1, if_neg (by omega)]
section
variable {b : List UInt8} {n : Int} {out : List Sample} {i : Nat} {p : Int} {bad : Bool} {st : Int}
theorem snoc_okS {xs : List Sample} (hl : ∀ s ∈ xs, s.ok) {y : Sample} (hy : y.ok) : ∀ s ∈ xs ++ [y], s.ok := by
  intro s hm
  rcases List.mem_append.1 hm with h | h
  · exact hl s h
  · rw [List.mem_singleton] at h; subst h; exact hy
theorem CS_first (h : CS b n out i p bad st) (hi : i = 0) (hn : (i : Int) < n) :
    CS b n (out ++ [⟨wr (get b p).1, zag (get b (get b p).2.1).1⟩]) (i + 1) (get b (get b p).2.1).2.1 (rbad (rbad bad b p) b (get b p).2.1) st := by
  obtain ⟨⟨p0, p1⟩, hs, hst, ho, hok, hC⟩ := h
  have t1 := get_to p0 p1
  have t2 := get_to (b := b) (p := (get b p).2.1) (by omega) (by omega)
  have hr := get_nn b (get b p).2.1
  refine ⟨⟨by omega, t2.2⟩, Or.inl (by omega), hst, by simp [ho], snoc_okS hok ⟨wr_r _, zag_r hr.1 hr.2⟩, fun l0 h1 h2 h3 => ?_⟩
  obtain ⟨c1, c2, c3, c4, c5⟩ := hC l0 h1 h2 h3
  have hlt : i < l0.length := by omega
  have hT := rising_tR (okS_iff.1 h1).1 _ (List.getElem_mem hlt)
  have hV := (h2 _ (List.getElem_mem hlt)).2
  rw [restS_first hi hlt] at c4
  obtain ⟨g1, g2, g3, _, _⟩ := get_pp (by omega) (by omega) p0 p1 c4
  obtain ⟨q1, q2, q3, _, _⟩ := get_zz hV (by omega) (by omega) g3
  have e0 : st = 0 := by omega
  refine ⟨?_, c2, ?_, ?_, c5⟩
  · rw [c1, rbad_of g2, rbad_of q2]
  · rw [g1, q1, wr_id (by omega), List.take_succ_eq_append_getElem hlt, c3]
  · rw [q3, e0]
theorem CS_next (h : CS b n out i p bad st) (hi : 0 < i) (hn : (i : Int) < n) (hl : i - 1 < out.length) :
    CS b n (out ++ [⟨wr ((out[i - 1]'hl).T + wr (st + zag (get b p).1)), wr ((out[i - 1]'hl).V + zag (get b (get b p).2.1).1)⟩]) (i + 1) (get b (get b p).2.1).2.1 (rbad (rbad bad b p) b (get b p).2.1) (wr (st + zag (get b p).1)) := by
  obtain ⟨⟨p0, p1⟩, hs, hst, ho, hok, hC⟩ := h
  have t1 := get_to p0 p1
  have t2 := get_to (b := b) (p := (get b p).2.1) (by omega) (by omega)
  refine ⟨⟨by omega, t2.2⟩, Or.inl (by omega), wr_r _, by simp [ho], snoc_okS hok ⟨wr_r _, wr_r _⟩, fun l0 h1 h2 h3 => ?_⟩
  obtain ⟨c1, c2, c3, c4, c5⟩ := hC l0 h1 h2 h3
  have hlt : i < l0.length := by omega
  have hT := rising_tR (okS_iff.1 h1).1 _ (List.getElem_mem hlt)
  have hT' := rising_tR (okS_iff.1 h1).1 _ (List.getElem_mem (show i - 1 < l0.length by omega))
  have hV := (h2 _ (List.getElem_mem hlt)).2
  have ew : out[i - 1]'hl = l0[i - 1]'(by omega) := by
    have : out[i - 1]? = (l0.take i)[i - 1]? := by rw [c3]
    rw [List.getElem?_eq_getElem hl, List.getElem?_take, if_pos (by omega), List.getElem?_eq_getElem (by omega)] at this
    exact Option.some.inj this
  rw [restS_next hi hlt] at c4
  obtain ⟨g1, g2, g3, _, _⟩ := get_zz (by omega) p0 p1 c4
  obtain ⟨q1, q2, q3, _, _⟩ := get_zz (wr_r _) (by omega) (by omega) g3
  have e1 : wr (st + zag (get b p).1) = (l0[i]'hlt).T - (l0[i - 1]'(by omega)).T := by
    rw [g1, wr_id (by omega)]; omega
  refine ⟨?_, c2, ?_, ?_, ?_⟩
  · rw [c1, rbad_of g2, rbad_of q2]
  · rw [e1, q1, ew, wr_id (by omega), wr_back hV, List.take_succ_eq_append_getElem hlt, ← c3]
    congr 2
    have : (l0[i - 1]'(by omega)).T + ((l0[i]'hlt).T - (l0[i - 1]'(by omega)).T) = (l0[i]'hlt).T := by omega
    rw [this]
  · rw [q3, e1]
  · rw [e1]; omega
/-- The end: what was read is put, and held against the bytes. -/
theorem CS_yes (h : CS b n out i p bad st) (hc : (encS out).2 = 0) (he : (encS out).1 = b) : DecS b out 0 := by
  obtain ⟨_, _, _, _, hok, _⟩ := h
  refine ⟨hok, Or.inl ⟨rfl, ?_, ?_⟩⟩
  · cases hm : okS out with
    | true => rfl
    | false => unfold encS at hc; rw [hm] at hc; simp at hc
  · cases hm : okS out with
    | true => rw [encS_yes hm] at he; exact he
    | false => unfold encS at hc; rw [hm] at hc; simp at hc
theorem CS_no (h : CS b n out i p bad st) (hx : bad = true ∨ (¬ (i : Int) < n ∧ (¬ (encS out).2 = 0 ∨ ¬ (encS out).1 = b))) : DecS b [] 2 := by
  obtain ⟨_, _, _, _, _, hC⟩ := h
  refine ⟨(by intro s hs; cases hs), Or.inr ⟨rfl, rfl, fun l0 h1 h2 h3 => ?_⟩⟩
  obtain ⟨c1, c2, c3, _⟩ := hC l0 h1 h2 h3
  rcases hx with hx | ⟨hx, hy⟩
  · rw [c1] at hx; cases hx
  · have e : out = l0 := by rw [c3, List.take_of_length_le (by omega)]
    subst e
    rw [encS_yes h1] at hy
    rcases hy with hy | hy
    · exact hy rfl
    · exact hy h3
end

def aggB (a : Agg) (w last : Int) : List UInt8 := put (a.From / w - last - 1) ++ (put (a.Count - 1) ++ (zz a.Min ++ (if a.Count = 1 then [] else put (a.Max - a.Min) ++ (zz a.Sum ++ (put (a.First - a.Min) ++ put (a.Last - a.Min))))))
def stepA2 (w : Int) : Int → List Agg → List UInt8
  | _, [] => []
  | last, a :: l => aggB a w last ++ stepA2 w (a.From / w) l
def putA (k : Int) (l : List Agg) : List UInt8 := put (l.length : Int) ++ stepA2 (widthA k) (-1) l
def okA (k : Int) (l : List Agg) : Bool := alignedA l k && decide (l.length ≤ 64)
def encA (k : Int) (l : List Agg) : List UInt8 × Int := if okA k l = true then (putA k l, 0) else ([], 1)
theorem okA_iff {k : Int} {l : List Agg} : okA k l = true ↔ alignedA l k = true ∧ l.length ≤ 64 := by unfold okA; simp
theorem encA_no {k : Int} {l : List Agg} (h : alignedA l k = false ∨ 64 < (l.length : Int)) : encA k l = ([], 1) := by
  unfold encA; rw [if_neg]; rw [okA_iff]; rintro ⟨h1, h2⟩
  rcases h with h | h
  · rw [h1] at h; cases h
  · omega
theorem encA_yes {k : Int} {l : List Agg} (h : okA k l = true) : encA k l = (putA k l, 0) := if_pos h
theorem width_pos {k : Int} (h : coarseA k = true) : 0 < widthA k := by
  have hk := of_decide_eq_true h
  have : k = 1 ∨ k = 2 ∨ k = 3 := by omega
  rcases this with rfl | rfl | rfl <;> decide
/-- The window before the place i. -/
def lastW (w : Int) (l : List Agg) : Nat → Int
  | 0 => -1
  | i + 1 => (l.getD i zeroA).From / w
theorem lastW_succ {w : Int} {l : List Agg} {i : Nat} (h : i < l.length) : lastW w l (i + 1) = (l[i]'h).From / w := by
  show (l.getD i zeroA).From / w = _
  rw [getD_is h]
/-- What is so of an aggregate of a window. -/
abbrev Win1 (w last : Int) (a : Agg) : Prop := mayP a ∧ a.From / w * w = a.From ∧ last < a.From / w ∧ a.From / w ≤ 1099511627776
theorem aligns_at {k : Int} (hk : 0 < widthA k) : ∀ (l : List Agg) (last : Int) (m : Int), alignsFrom k last l = true → (last = -1 ∧ m = -1 ∨ 0 ≤ last ∧ last = m * widthA k) → ∀ (i : Nat) (h : i < l.length), Win1 (widthA k) (if i = 0 then m else (l.getD (i - 1) zeroA).From / widthA k) (l[i]'h)
  | [], _, _, _, _, i, h => by simp at h
  | a :: l, last, m, hal, hm, i, h => by
    rw [alignsFrom] at hal
    simp only [Bool.and_eq_true, decide_eq_true_eq] at hal
    obtain ⟨⟨h1, h2, h3⟩, h4⟩ := hal
    have hp := mayA_true h1
    have hf : a.From = a.From - a.From % widthA k := h2.trans (floor_some (by omega) (by simp only [mayP] at hp; omega) (by simp only [mayP] at hp; omega))
    have hd := Int.emod_add_mul_ediv a.From (widthA k)
    have hz : a.From % widthA k = 0 := by omega
    have e : a.From / widthA k * widthA k = a.From := by rw [Int.mul_comm]; omega
    have hq : 0 ≤ a.From / widthA k := Int.ediv_nonneg (by simp only [mayP] at hp; omega) (by omega)
    have hle : a.From / widthA k ≤ a.From / widthA k * widthA k := by
      have := Int.mul_le_mul_of_nonneg_left (show 1 ≤ widthA k by omega) hq
      omega
    cases i with
    | zero =>
      refine ⟨hp, e, ?_, by simp only [mayP] at hp; simp only [List.getElem_cons_zero]; omega⟩
      simp only [List.getElem_cons_zero, if_true]
      rcases hm with ⟨_, rfl⟩ | ⟨hm1, hm2⟩
      · omega
      · rw [← e, hm2] at h3
        exact Int.lt_of_mul_lt_mul_right h3 (by omega)
    | succ i =>
      have ih := aligns_at hk l a.From (a.From / widthA k) h4 (Or.inr ⟨by simp only [mayP] at hp; omega, e.symm⟩) i (by simpa using h)
      have e2 : (if i + 1 = 0 then m else ((a :: l).getD (i + 1 - 1) zeroA).From / widthA k) = (if i = 0 then a.From / widthA k else (l.getD (i - 1) zeroA).From / widthA k) := by
        rw [if_neg (by omega)]
        cases i with
        | zero => rfl
        | succ j => rfl
      simp only [List.getElem_cons_succ]
      rw [e2]; exact ih
theorem aligned_at {k : Int} {l : List Agg} (h : alignedA l k = true) {i : Nat} (hi : i < l.length) : Win1 (widthA k) (lastW (widthA k) l i) (l[i]'hi) := by
  unfold alignedA at h
  simp only [Bool.and_eq_true] at h
  have := aligns_at (width_pos h.1) l (-1) (-1) h.2 (Or.inl ⟨rfl, rfl⟩) i hi
  cases i with
  | zero => exact this
  | succ j => exact this
/-- One aggregate's bytes tell it, and what stands behind. -/
theorem agg_one {a : Agg} (h : mayP a) (hc : a.Count = 1) : a.Sum = a.Min ∧ a.Max = a.Min ∧ a.First = a.Min ∧ a.Last = a.Min := by
  simp only [mayP] at h; omega
theorem aggB_split {a b : Agg} {w last : Int} {r r' : List UInt8} (ha : Win1 w last a) (hb : Win1 w last b) (hl : -1 ≤ last) (oa : a.ok) (ob : b.ok) (h : aggB a w last ++ r = aggB b w last ++ r') : a = b ∧ r = r' := by
  obtain ⟨ma, ea, la, ua⟩ := ha
  obtain ⟨mb, eb, lb, ub⟩ := hb
  unfold aggB at h
  simp only [List.append_assoc] at h
  obtain ⟨e1, h⟩ := put_split (by omega) (by omega) (by omega) (by omega) h
  obtain ⟨e2, h⟩ := put_split (by simp only [mayP] at ma; omega) (by simp only [mayP] at ma; omega) (by simp only [mayP] at mb; omega) (by simp only [mayP] at mb; omega) h
  obtain ⟨e3, h⟩ := zz_split oa.2.2.2.1 ob.2.2.2.1 h
  have f1 : a.From = b.From := by rw [← ea, ← eb]; congr 1; omega
  have f2 : a.Count = b.Count := by omega
  by_cases hc : a.Count = 1
  · rw [if_pos hc, if_pos (by omega)] at h
    have q := agg_one ma hc
    have q' := agg_one mb (by omega)
    refine ⟨?_, h⟩
    rw [agg_iff]; omega
  · rw [if_neg hc, if_neg (by omega)] at h
    simp only [List.append_assoc] at h
    simp only [Agg.ok, i64R] at oa ob
    simp only [mayP] at ma mb
    obtain ⟨e4, h⟩ := put_split (by omega) (by omega) (by omega) (by omega) h
    obtain ⟨e5, h⟩ := zz_split (by simp only [i64R]; omega) (by simp only [i64R]; omega) h
    obtain ⟨e6, h⟩ := put_split (by omega) (by omega) (by omega) (by omega) h
    obtain ⟨e7, h⟩ := put_split (by omega) (by omega) (by omega) (by omega) h
    refine ⟨?_, h⟩
    rw [agg_iff]; omega
theorem lastW_ge {k : Int} {l : List Agg} (h : alignedA l k = true) {i : Nat} (hi : i ≤ l.length) : -1 ≤ lastW (widthA k) l i := by
  cases i with
  | zero => exact (by decide : (-1 : Int) ≤ -1)
  | succ j =>
    rw [lastW_succ (by omega)]
    have hw : 0 < widthA k := by unfold alignedA at h; simp only [Bool.and_eq_true] at h; exact width_pos h.1
    have := (aligned_at h (i := j) (by omega)).1
    have := Int.ediv_nonneg (a := (l[j]'(by omega)).From) (b := widthA k) (by simp only [mayP] at this; omega) (by omega)
    omega
theorem stepA2_split {k : Int} : ∀ (n : Nat) (l l' : List Agg) (i : Nat) {r r' : List UInt8}, alignedA l k = true → alignedA l' k = true → (∀ a ∈ l, a.ok) → (∀ a ∈ l', a.ok) → l.length = l'.length → l.length - i = n → l.take i = l'.take i → i ≤ l.length →
    stepA2 (widthA k) (lastW (widthA k) l i) (l.drop i) ++ r = stepA2 (widthA k) (lastW (widthA k) l' i) (l'.drop i) ++ r' → l = l' ∧ r = r'
  | 0, l, l', i, r, r', h1, h2, o1, o2, hl, hn, ht, hi, h => by
    rw [List.drop_eq_nil_of_le (by omega), List.drop_eq_nil_of_le (by omega)] at h
    rw [List.take_of_length_le (by omega), List.take_of_length_le (by omega)] at ht
    exact ⟨ht, h⟩
  | n + 1, l, l', i, r, r', h1, h2, o1, o2, hl, hn, ht, hi, h => by
    have hlt : i < l.length := by omega
    have hlt' : i < l'.length := by omega
    have elast : lastW (widthA k) l i = lastW (widthA k) l' i := by
      cases i with
      | zero => rfl
      | succ j =>
        rw [lastW_succ (by omega), lastW_succ (by omega)]
        have e : (l.take (j + 1))[j]? = (l'.take (j + 1))[j]? := by rw [ht]
        rw [List.getElem?_take, List.getElem?_take, if_pos (by omega), if_pos (by omega), List.getElem?_eq_getElem (by omega), List.getElem?_eq_getElem (by omega)] at e
        rw [Option.some.inj e]
    rw [List.drop_eq_getElem_cons hlt, List.drop_eq_getElem_cons hlt', stepA2, stepA2, List.append_assoc, List.append_assoc] at h
    have w1 := aligned_at h1 hlt
    have w2 := aligned_at h2 hlt'
    rw [elast] at h w1
    obtain ⟨e1, h⟩ := aggB_split w1 w2 (lastW_ge h2 (by omega)) (o1 _ (List.getElem_mem hlt)) (o2 _ (List.getElem_mem hlt')) h
    refine stepA2_split n l l' (i + 1) h1 h2 o1 o2 hl (by omega) ?_ (by omega) (by rw [lastW_succ hlt, lastW_succ hlt']; exact h)
    rw [List.take_succ_eq_append_getElem hlt, List.take_succ_eq_append_getElem hlt', ht, e1]
theorem putA_split {k : Int} {l l' : List Agg} {r r' : List UInt8} (h1 : okA k l = true) (h2 : okA k l' = true) (o1 : ∀ a ∈ l, a.ok) (o2 : ∀ a ∈ l', a.ok) (h : putA k l ++ r = putA k l' ++ r') : l = l' ∧ r = r' := by
  have k1 := okA_iff.1 h1
  have k2 := okA_iff.1 h2
  unfold putA at h
  rw [List.append_assoc, List.append_assoc] at h
  obtain ⟨e, h⟩ := put_split (by omega) (by omega) (by omega) (by omega) h
  exact stepA2_split (l.length - 0) l l' 0 k1.1 k2.1 o1 o2 (by omega) rfl rfl (by omega) h
/-- What is told by the bytes: the aggregates, and whether they are any (0; 2; 1: there is no such tier). -/
def DecA (k : Int) (b : List UInt8) (l : List Agg) (c : Int) : Prop :=
  (∀ a ∈ l, a.ok) ∧ ((c = 0 ∧ coarseA k = true ∧ okA k l = true ∧ putA k l = b) ∨ (c = 2 ∧ l = [] ∧ coarseA k = true ∧ ∀ l0, okA k l0 = true → (∀ a ∈ l0, a.ok) → putA k l0 ≠ b) ∨ (c = 1 ∧ l = [] ∧ coarseA k = false))
theorem decA_one {k : Int} {b : List UInt8} {l l' : List Agg} {c c' : Int} (h : DecA k b l c) (h' : DecA k b l' c') : l = l' ∧ c = c' := by
  obtain ⟨o, h⟩ := h
  obtain ⟨o', h'⟩ := h'
  rcases h with ⟨rfl, h0, h1, h2⟩ | ⟨rfl, rfl, h0, h1⟩ | ⟨rfl, rfl, h0⟩
  · rcases h' with ⟨rfl, _, h3, h4⟩ | ⟨rfl, rfl, _, h3⟩ | ⟨rfl, rfl, h3⟩
    · exact ⟨(putA_split (r := []) (r' := []) h1 h3 o o' (by rw [List.append_nil, List.append_nil, h2, h4])).1, rfl⟩
    · exact absurd h2 (h3 l h1 o)
    · rw [h0] at h3; cases h3
  · rcases h' with ⟨rfl, _, h3, h4⟩ | ⟨rfl, rfl, _, h3⟩ | ⟨rfl, rfl, h3⟩
    · exact absurd h4 (h1 l' h3 o')
    · exact ⟨rfl, rfl⟩
    · rw [h0] at h3; cases h3
  · rcases h' with ⟨rfl, h3, _⟩ | ⟨rfl, rfl, h3, _⟩ | ⟨rfl, rfl, h3⟩
    · rw [h0] at h3; cases h3
    · rw [h0] at h3; cases h3
    · exact ⟨rfl, rfl⟩
theorem okA_coarse {k : Int} {l : List Agg} (h : okA k l = true) : coarseA k = true := by
  have := (okA_iff.1 h).1
  unfold alignedA at this; simp only [Bool.and_eq_true] at this; exact this.1
theorem decA_put {k : Int} {l l' : List Agg} {c : Int} (h : DecA k (putA k l) l' c) (hl : okA k l = true) (ho : ∀ a ∈ l, a.ok) : l' = l ∧ c = 0 :=
  decA_one h ⟨ho, Or.inl ⟨rfl, okA_coarse hl, hl, rfl⟩⟩
theorem decA_more {k : Int} {l l' : List Agg} {c : Int} {x : List UInt8} (h : DecA k (putA k l ++ x) l' c) (hl : okA k l = true) (ho : ∀ a ∈ l, a.ok) (hx : x ≠ []) : c = 2 ∧ l' = [] := by
  obtain ⟨o, h | h | h⟩ := h
  · exfalso
    have h2 := (putA_split (r := []) (r' := x) h.2.2.1 hl o ho (by rw [h.2.2.2, List.append_nil])).2
    exact hx h2.symm
  · exact ⟨h.1, h.2.1⟩
  · have := okA_coarse hl; rw [h.2.2] at this; cases this
theorem aggB_len (a : Agg) (w last : Int) : (aggB a w last).length ≤ 70 := by
  have h1 := put_length (a.From / w - last - 1)
  have h2 := put_length (a.Count - 1)
  have h3 := zz_length a.Min
  have h4 := put_length (a.Max - a.Min)
  have h5 := zz_length a.Sum
  have h6 := put_length (a.First - a.Min)
  have h7 := put_length (a.Last - a.Min)
  unfold aggB
  split
  · simp only [List.length_append, List.length_nil]; omega
  · simp only [List.length_append]; omega
theorem u64_sub {a b : Int} (ha : i64R a) (hb : i64R b) (h : b ≤ a) : IntKind.u64.wrap (a % 18446744073709551616 - b % 18446744073709551616) = a - b := by
  rw [IntKind.wrap_u64]; omega
/-! ### Reading them -/
section
variable {b : List UInt8} {k n at_ : Int} {out : List Agg} {i : Nat} {p : Int} {bad : Bool}
def CA (b : List UInt8) (k n : Int) (out : List Agg) (i : Nat) (p : Int) (bad : Bool) (at_ : Int) : Prop :=
  (0 ≤ p ∧ p ≤ (b.length : Int)) ∧ i64R at_ ∧ out.length = i ∧ (∀ a ∈ out, a.ok) ∧
  ∀ l0, okA k l0 = true → (∀ a ∈ l0, a.ok) → putA k l0 = b → bad = false ∧ n = (l0.length : Int) ∧ out = l0.take i ∧ b.drop p.toNat = stepA2 (widthA k) (lastW (widthA k) l0 i) (l0.drop i) ∧ at_ = lastW (widthA k) l0 i
theorem CA_start : CA b k (cntV b 0 64) [] 0 (get b 0).2.1 (cntBad false b 0 64) (-1) := by
  have h0 := get_to (b := b) (p := 0) (by omega) (by omega)
  refine ⟨⟨by omega, h0.2⟩, by decide, rfl, (by intro s hs; cases hs), fun l0 h1 h2 h3 => ?_⟩
  have h4 := (okA_iff.1 h1).2
  obtain ⟨g1, g2, g3, _, _⟩ := get_pp (b := b) (rest := stepA2 (widthA k) (-1) l0) (n := (l0.length : Int)) (p := 0) (by omega) (by omega) (by omega) (by omega) (by rw [← h3]; rfl)
  refine ⟨?_, ?_, rfl, g3, rfl⟩
  · unfold cntBad; rw [rbad_of g2, g1]; simp; omega
  · unfold cntV; rw [g1, if_neg (by omega)]
theorem wr_sum {a m : Int} (ha : i64R a) (hm : i64R m) (h : m ≤ a) : wr ((m % 18446744073709551616 + (a - m)) % 18446744073709551616) = a := by
  show IntKind.i64.wrap _ = a; rw [IntKind.wrap_i64]; omega
theorem CA_one (h : CA b k n out i p bad at_) (hn : (i : Int) < n) (hc : wr (wr (get b (get b p).2.1).1 + 1) = 1) :
    CA b k n (out ++ [⟨wr ((wr (wr (at_ + 1) + wr (get b p).1)) * widthA k), wr (wr (get b (get b p).2.1).1 + 1), zag (get b (get b (get b p).2.1).2.1).1, zag (get b (get b (get b p).2.1).2.1).1, zag (get b (get b (get b p).2.1).2.1).1, zag (get b (get b (get b p).2.1).2.1).1, zag (get b (get b (get b p).2.1).2.1).1⟩]) (i + 1) (get b (get b (get b p).2.1).2.1).2.1 (rbad (rbad (rbad bad b p) b (get b p).2.1) b (get b (get b p).2.1).2.1) (wr (wr (at_ + 1) + wr (get b p).1)) := by
  obtain ⟨⟨p0, p1⟩, ha, ho, hok, hC⟩ := h
  have t0 := get_to (b := b) (p := p) (by omega) (by omega)
  have t1 := get_to (b := b) (p := (get b p).2.1) (by omega) (by omega)
  have t2 := get_to (b := b) (p := (get b (get b p).2.1).2.1) (by omega) (by omega)
  have r2 := get_nn b ((get b (get b p).2.1).2.1)
  have z2 := zag_r r2.1 r2.2
  refine ⟨⟨by omega, t2.2⟩, wr_r _, by simp [ho], snoc_okA hok ⟨wr_r _, wr_r _, z2, z2, z2, z2, z2⟩, fun l0 h1 h2 h3 => ?_⟩
  obtain ⟨c1, c2, c3, c4, c5⟩ := hC l0 h1 h2 h3
  have hal := (okA_iff.1 h1).1
  have hlt : i < l0.length := by omega
  obtain ⟨w1, w2, w3, w4⟩ := aligned_at hal hlt
  have oa := h2 _ (List.getElem_mem hlt)
  have hge := lastW_ge hal (i := i) (by omega)
  have hwr := width_r k
  rw [List.drop_eq_getElem_cons hlt, stepA2] at c4
  rw [← lastW_succ (w := widthA k) hlt] at c4
  rw [← c5] at c4 hge w3
  unfold aggB at c4
  simp only [List.append_assoc] at c4
  simp only [Agg.ok, i64R] at oa
  simp only [mayP] at w1
  obtain ⟨g0, f0, d0, _, _⟩ := get_pp (by omega) (by omega) p0 p1 c4
  obtain ⟨g1, f1, d1, _, _⟩ := get_pp (by omega) (by omega) (by omega) (by omega) d0
  obtain ⟨g2, f2, d2, _, _⟩ := get_zz (by simp only [i64R]; omega) (by omega) (by omega) d1
  have ea : wr (wr (at_ + 1) + wr (get b p).1) = (l0[i]'hlt).From / widthA k := by
    have q1 : wr (at_ + 1) = at_ + 1 := wr_id (by simp only [i64R]; omega)
    have q2 : wr (get b p).1 = (l0[i]'hlt).From / widthA k - at_ - 1 := by rw [g0]; exact wr_id (by simp only [i64R]; omega)
    rw [q1, q2, wr_id (by simp only [i64R]; omega)]; omega
  have ec : wr (wr (get b (get b p).2.1).1 + 1) = (l0[i]'hlt).Count := by
    have q3 : wr (get b (get b p).2.1).1 = (l0[i]'hlt).Count - 1 := by rw [g1]; exact wr_id (by simp only [i64R]; omega)
    rw [q3, wr_id (by simp only [i64R]; omega)]; omega
  have ef : wr ((wr (wr (at_ + 1) + wr (get b p).1)) * widthA k) = (l0[i]'hlt).From := by rw [ea, w2, wr_id (by simp only [i64R]; omega)]
  rw [ec] at hc
  rw [if_pos hc, List.nil_append] at d2
  have q := agg_one (a := l0[i]'hlt) (by simp only [mayP]; omega) hc
  refine ⟨by rw [c1, rbad_of f0, rbad_of f1, rbad_of f2], c2, ?_, d2, by rw [ea, lastW_succ hlt]⟩
  rw [List.take_succ_eq_append_getElem hlt, ← c3]
  congr 2
  rw [agg_iff]
  exact ⟨ef, ec, g2.trans q.1.symm, g2, g2.trans q.2.1.symm, g2.trans q.2.2.1.symm, g2.trans q.2.2.2.symm⟩
theorem CA_many (h : CA b k n out i p bad at_) (hn : (i : Int) < n) (hc : ¬ wr (wr (get b (get b p).2.1).1 + 1) = 1) :
    CA b k n (out ++ [⟨wr ((wr (wr (at_ + 1) + wr (get b p).1)) * widthA k), wr (wr (get b (get b p).2.1).1 + 1), zag (get b (get b (get b (get b (get b p).2.1).2.1).2.1).2.1).1, zag (get b (get b (get b p).2.1).2.1).1, wr ((zag (get b (get b (get b p).2.1).2.1).1 % 18446744073709551616 + (get b (get b (get b (get b p).2.1).2.1).2.1).1) % 18446744073709551616), wr ((zag (get b (get b (get b p).2.1).2.1).1 % 18446744073709551616 + (get b (get b (get b (get b (get b (get b p).2.1).2.1).2.1).2.1).2.1).1) % 18446744073709551616), wr ((zag (get b (get b (get b p).2.1).2.1).1 % 18446744073709551616 + (get b (get b (get b (get b (get b (get b (get b p).2.1).2.1).2.1).2.1).2.1).2.1).1) % 18446744073709551616)⟩]) (i + 1) (get b (get b (get b (get b (get b (get b (get b p).2.1).2.1).2.1).2.1).2.1).2.1).2.1 (rbad (rbad (rbad (rbad (rbad (rbad (rbad bad b p) b (get b p).2.1) b (get b (get b p).2.1).2.1) b (get b (get b (get b p).2.1).2.1).2.1) b (get b (get b (get b (get b p).2.1).2.1).2.1).2.1) b (get b (get b (get b (get b (get b p).2.1).2.1).2.1).2.1).2.1) b (get b (get b (get b (get b (get b (get b p).2.1).2.1).2.1).2.1).2.1).2.1) (wr (wr (at_ + 1) + wr (get b p).1)) := by
  obtain ⟨⟨p0, p1⟩, ha, ho, hok, hC⟩ := h
  have t0 := get_to (b := b) (p := p) (by omega) (by omega)
  have t1 := get_to (b := b) (p := (get b p).2.1) (by omega) (by omega)
  have t2 := get_to (b := b) (p := (get b (get b p).2.1).2.1) (by omega) (by omega)
  have t3 := get_to (b := b) (p := (get b (get b (get b p).2.1).2.1).2.1) (by omega) (by omega)
  have t4 := get_to (b := b) (p := (get b (get b (get b (get b p).2.1).2.1).2.1).2.1) (by omega) (by omega)
  have t5 := get_to (b := b) (p := (get b (get b (get b (get b (get b p).2.1).2.1).2.1).2.1).2.1) (by omega) (by omega)
  have t6 := get_to (b := b) (p := (get b (get b (get b (get b (get b (get b p).2.1).2.1).2.1).2.1).2.1).2.1) (by omega) (by omega)
  have r2 := get_nn b ((get b (get b p).2.1).2.1)
  have z2 := zag_r r2.1 r2.2
  have r4 := get_nn b ((get b (get b (get b (get b p).2.1).2.1).2.1).2.1)
  have z4 := zag_r r4.1 r4.2
  refine ⟨⟨by omega, t6.2⟩, wr_r _, by simp [ho], snoc_okA hok ⟨wr_r _, wr_r _, z4, z2, wr_r _, wr_r _, wr_r _⟩, fun l0 h1 h2 h3 => ?_⟩
  obtain ⟨c1, c2, c3, c4, c5⟩ := hC l0 h1 h2 h3
  have hal := (okA_iff.1 h1).1
  have hlt : i < l0.length := by omega
  obtain ⟨w1, w2, w3, w4⟩ := aligned_at hal hlt
  have oa := h2 _ (List.getElem_mem hlt)
  have hge := lastW_ge hal (i := i) (by omega)
  have hwr := width_r k
  rw [List.drop_eq_getElem_cons hlt, stepA2] at c4
  rw [← lastW_succ (w := widthA k) hlt] at c4
  rw [← c5] at c4 hge w3
  unfold aggB at c4
  simp only [List.append_assoc] at c4
  simp only [Agg.ok, i64R] at oa
  simp only [mayP] at w1
  obtain ⟨g0, f0, d0, _, _⟩ := get_pp (by omega) (by omega) p0 p1 c4
  obtain ⟨g1, f1, d1, _, _⟩ := get_pp (by omega) (by omega) (by omega) (by omega) d0
  obtain ⟨g2, f2, d2, _, _⟩ := get_zz (by simp only [i64R]; omega) (by omega) (by omega) d1
  have ea : wr (wr (at_ + 1) + wr (get b p).1) = (l0[i]'hlt).From / widthA k := by
    have q1 : wr (at_ + 1) = at_ + 1 := wr_id (by simp only [i64R]; omega)
    have q2 : wr (get b p).1 = (l0[i]'hlt).From / widthA k - at_ - 1 := by rw [g0]; exact wr_id (by simp only [i64R]; omega)
    rw [q1, q2, wr_id (by simp only [i64R]; omega)]; omega
  have ec : wr (wr (get b (get b p).2.1).1 + 1) = (l0[i]'hlt).Count := by
    have q3 : wr (get b (get b p).2.1).1 = (l0[i]'hlt).Count - 1 := by rw [g1]; exact wr_id (by simp only [i64R]; omega)
    rw [q3, wr_id (by simp only [i64R]; omega)]; omega
  have ef : wr ((wr (wr (at_ + 1) + wr (get b p).1)) * widthA k) = (l0[i]'hlt).From := by rw [ea, w2, wr_id (by simp only [i64R]; omega)]
  rw [ec] at hc
  rw [if_neg hc] at d2
  simp only [List.append_assoc] at d2
  obtain ⟨g3, f3, d3, _, _⟩ := get_pp (by omega) (by omega) (by omega) (by omega) d2
  obtain ⟨g4, f4, d4, _, _⟩ := get_zz (by simp only [i64R]; omega) (by omega) (by omega) d3
  obtain ⟨g5, f5, d5, _, _⟩ := get_pp (by omega) (by omega) (by omega) (by omega) d4
  obtain ⟨g6, f6, d6, _, _⟩ := get_pp (by omega) (by omega) (by omega) (by omega) d5
  refine ⟨by rw [c1, rbad_of f0, rbad_of f1, rbad_of f2, rbad_of f3, rbad_of f4, rbad_of f5, rbad_of f6], c2, ?_, d6, by rw [ea, lastW_succ hlt]⟩
  rw [List.take_succ_eq_append_getElem hlt, ← c3]
  congr 2
  rw [agg_iff]
  refine ⟨ef, ec, g4, g2, ?_, ?_, ?_⟩
  · show wr _ = _; rw [g2, g3]; exact wr_sum (by simp only [i64R]; omega) (by simp only [i64R]; omega) (by omega)
  · show wr _ = _; rw [g2, g5]; exact wr_sum (by simp only [i64R]; omega) (by simp only [i64R]; omega) (by omega)
  · show wr _ = _; rw [g2, g6]; exact wr_sum (by simp only [i64R]; omega) (by simp only [i64R]; omega) (by omega)
theorem CA_yes (h : CA b k n out i p bad at_) (hk : coarseA k = true) (hc : (encA k out).2 = 0) (he : (encA k out).1 = b) : DecA k b out 0 := by
  obtain ⟨_, _, _, hok, _⟩ := h
  have hm : okA k out = true := by
    cases hm : okA k out with
    | true => rfl
    | false => unfold encA at hc; rw [hm] at hc; simp at hc
  exact ⟨hok, Or.inl ⟨rfl, hk, hm, by rw [encA_yes hm] at he; exact he⟩⟩
theorem CA_no (h : CA b k n out i p bad at_) (hk : coarseA k = true) (hx : bad = true ∨ (¬ (i : Int) < n ∧ (¬ (encA k out).2 = 0 ∨ ¬ (encA k out).1 = b))) : DecA k b [] 2 := by
  obtain ⟨_, _, _, _, hC⟩ := h
  refine ⟨(by intro s hs; cases hs), Or.inr (Or.inl ⟨rfl, rfl, hk, fun l0 h1 h2 h3 => ?_⟩)⟩
  obtain ⟨c1, c2, c3, _⟩ := hC l0 h1 h2 h3
  rcases hx with hx | ⟨hx, hy⟩
  · rw [c1] at hx; cases hx
  · have e : out = l0 := by rw [c3, List.take_of_length_le (by omega)]
    subst e
    rw [encA_yes h1] at hy
    rcases hy with hy | hy
    · exact hy rfl
    · exact hy h3
theorem CA_out (hk : coarseA k = false) : DecA k b [] 1 := ⟨(by intro s hs; cases hs), Or.inr (Or.inr ⟨rfl, rfl, hk⟩)⟩
end

theorem stepA2_one {w : Int} {l : List Agg} {i : Nat} (h : i < l.length) (hc : (l[i]'h).Count = 1) : stepA2 w (lastW w l i) (l.drop i) = put ((l[i]'h).From / w - lastW w l i - 1) ++ (put ((l[i]'h).Count - 1) ++ (zz (l[i]'h).Min ++ stepA2 w (lastW w l (i + 1)) (l.drop (i + 1)))) := by
  rw [List.drop_eq_getElem_cons h, stepA2, lastW_succ h]; unfold aggB; rw [if_pos hc]; simp only [List.append_assoc, List.append_nil]
theorem stepA2_many {w : Int} {l : List Agg} {i : Nat} (h : i < l.length) (hc : ¬ (l[i]'h).Count = 1) : stepA2 w (lastW w l i) (l.drop i) = put ((l[i]'h).From / w - lastW w l i - 1) ++ (put ((l[i]'h).Count - 1) ++ (zz (l[i]'h).Min ++ (put ((l[i]'h).Max - (l[i]'h).Min) ++ (zz (l[i]'h).Sum ++ (put ((l[i]'h).First - (l[i]'h).Min) ++ (put ((l[i]'h).Last - (l[i]'h).Min) ++ stepA2 w (lastW w l (i + 1)) (l.drop (i + 1)))))))) := by
  rw [List.drop_eq_getElem_cons h, stepA2, lastW_succ h]; unfold aggB; rw [if_neg hc]; simp only [List.append_assoc]
theorem stepA2_end {w last : Int} {l : List Agg} {i : Nat} (h : i = l.length) : stepA2 w last (l.drop i) = [] := by rw [List.drop_eq_nil_of_le (by omega)]; rfl

theorem St.elt {α : Type} {E : Enc α} {Tr : TypeId} {v : Value} {xs : List α} {w0 w : World} {L : List Item} (hst : St w0 w L) (j : Nat) (hj : L[j]? = some (rowT Tr E v xs)) {b : Nat} (hb : v.ownBlock = some b) (n : Nat) (hm : n < xs.length) : Pt w b (n * E.size) (E.enc (xs[n]'hm)) := by
  have hown := hst.at j hj
  have hsl := hst.sl j hj
  rcases hown.2 with ⟨rfl, hl⟩ | ⟨b1, cap, cur, rfl, h1, hg, hnc, hcm, hcs, htake⟩
  · cases hb
  · obtain ⟨A, c, he, h2, h3, h4⟩ := hsl
    injection he with e1 e2 e3
    subst e1
    obtain ⟨b', off, e4, hp⟩ := h4 (by rintro rfl; simp at hm)
    injection e4 with e4
    injection e4 with e5 e6
    subst e5 e6
    simp only [Value.ownBlock, Option.some.injEq] at hb
    subst hb
    have hp' := hp n _ (List.getElem?_eq_getElem hm)
    rw [Nat.zero_add] at hp'
    exact hp'
theorem wr_mod {a b : Int} : wr ((a % 18446744073709551616 + b % 18446744073709551616) % 18446744073709551616) = wr (a + b) := by
  show IntKind.i64.wrap _ = IntKind.i64.wrap _; rw [IntKind.wrap_i64, IntKind.wrap_i64]; omega
theorem wr_modS {a b : Int} : wr ((a % 18446744073709551616 - b % 18446744073709551616) % 18446744073709551616) = wr (a - b) := by
  show IntKind.i64.wrap _ = IntKind.i64.wrap _; rw [IntKind.wrap_i64, IntKind.wrap_i64]; omega
theorem and62 {a : Int} (h0 : 0 ≤ a) (h1 : a ≤ 18446744073709551615) : bits .and .u64 a 4611686018427387903 = a % 4611686018427387904 := by
  obtain ⟨n, rfl⟩ := Int.eq_ofNat_of_zero_le h0
  show IntKind.u64.wrap ((BitVec.ofInt 64 (n : Int) &&& BitVec.ofInt 64 ((4611686018427387903 : Nat) : Int)).toNat : Int) = _
  rw [BitVec.toNat_and, ofNat64 (by omega), ofNat64 (by omega)]
  have h : n &&& 4611686018427387903 = n % 4611686018427387904 := Nat.and_two_pow_sub_one_eq_mod n 62
  rw [h, IntKind.wrap_u64]; omega
theorem rnum_f {bad : Bool} {b : List UInt8} {p : Int} (h : bad = false) : rnum bad b p = (get b p).1 := by subst h; rfl
theorem rto_f {bad : Bool} {b : List UInt8} {p : Int} (h : bad = false) : rto bad b p = (get b p).2.1 := by subst h; rfl
theorem rbad_f {bad : Bool} {b : List UInt8} {p : Int} (h : rbad bad b p = false) : bad = false := by
  cases bad with
  | false => rfl
  | true => simp [rbad] at h
theorem RS_start {b : List UInt8} {bad : Bool} {p : Int} (hp : p = 0) (hb : bad = false) : CS b (rnum bad b p) [] 0 (rto bad b p) (rbad bad b p) 0 := by
  subst hp hb
  have h0 := get_to (b := b) (p := 0) (by omega) (by omega)
  refine ⟨⟨?_, h0.2⟩, Or.inr rfl, by decide, rfl, (by intro s hs; cases hs), fun l0 h1 h2 h3 => ?_⟩
  · exact h0.1
  · have h4 := (okS_iff.1 h1).2
    obtain ⟨g1, g2, g3, _, _⟩ := get_pp (b := b) (rest := bodyS l0) (n := (l0.length : Int)) (p := 0) (by omega) (by omega) (by omega) (by omega) (by rw [← h3]; rfl)
    exact ⟨rbad_of g2, g1, rfl, g3, by omega, by omega⟩
theorem RS_start2 {b : List UInt8} {bad x : Bool} {p : Int} (hp : p = 0) (hb : bad = false) (h : 64 < rnum bad b p) : CS b (rnum bad b p) [] 0 (rto bad b p) x 0 := by
  subst hp hb
  have h0 := get_to (b := b) (p := 0) (by omega) (by omega)
  refine ⟨⟨?_, h0.2⟩, Or.inr rfl, by decide, rfl, (by intro s hs; cases hs), fun l0 h1 h2 h3 => ?_⟩
  · exact h0.1
  · have h4 := (okS_iff.1 h1).2
    obtain ⟨g1, g2, g3, _, _⟩ := get_pp (b := b) (rest := bodyS l0) (n := (l0.length : Int)) (p := 0) (by omega) (by omega) (by omega) (by omega) (by rw [← h3]; rfl)
    have g4 : rnum false b 0 = (l0.length : Int) := g1
    omega
section
variable {b : List UInt8} {n : Int} {out : List Sample} {i : Nat} {p : Int} {bad : Bool} {st : Int}
theorem RS_first (h : CS b n out i p bad st) (hi : i = 0) (hn : (i : Int) < n) :
    CS b n (out ++ [⟨wr (rnum bad b p), zag (rnum (rbad bad b p) b (rto bad b p))⟩]) (i + 1) (rto (rbad bad b p) b (rto bad b p)) (rbad (rbad bad b p) b (rto bad b p)) st := by
  have H := CS_first h hi hn
  obtain ⟨⟨p0, p1⟩, hs, hst, ho, hok, hC⟩ := h
  have t1 := rto_r (bad := bad) p0 p1
  have t2 := rto_r (bad := rbad bad b p) (b := b) (p := rto bad b p) (by omega) (by omega)
  have hr := rnum_r (rbad bad b p) b (rto bad b p)
  obtain ⟨_, _, _, _, _, HC⟩ := H
  refine ⟨⟨by omega, t2.2⟩, Or.inl (by omega), hst, by simp [ho], snoc_okS hok ⟨wr_r _, zag_r hr.1 hr.2⟩, fun l0 h1 h2 h3 => ?_⟩
  have K := HC l0 h1 h2 h3
  have e1 := rbad_f K.1
  have e0 := rbad_f e1
  simp only [rto_f e0, rnum_f e0, rnum_f e1, rto_f e1]
  exact K
theorem RS_next (h : CS b n out i p bad st) (hi : 0 < i) (hn : (i : Int) < n) (hl : i - 1 < out.length) {T V u : Int} (eu : u = wr (st + zag (rnum bad b p))) (eT : T = wr ((out[i - 1]'hl).T + u)) (eV : V = wr ((out[i - 1]'hl).V + zag (rnum (rbad bad b p) b (rto bad b p)))) :
    CS b n (out ++ [⟨T, V⟩]) (i + 1) (rto (rbad bad b p) b (rto bad b p)) (rbad (rbad bad b p) b (rto bad b p)) u := by
  have H := CS_next h hi hn hl
  obtain ⟨⟨p0, p1⟩, hs, hst, ho, hok, hC⟩ := h
  have t1 := rto_r (bad := bad) p0 p1
  have t2 := rto_r (bad := rbad bad b p) (b := b) (p := rto bad b p) (by omega) (by omega)
  obtain ⟨_, _, _, _, _, HC⟩ := H
  refine ⟨⟨by omega, t2.2⟩, Or.inl (by omega), eu ▸ wr_r _, by simp [ho], snoc_okS hok ⟨eT ▸ wr_r _, eV ▸ wr_r _⟩, fun l0 h1 h2 h3 => ?_⟩
  have K := HC l0 h1 h2 h3
  have e1 := rbad_f K.1
  have e0 := rbad_f e1
  simp only [rto_f e0, rnum_f e0, rnum_f e1, rto_f e1] at eu eV ⊢
  subst eu eV eT
  exact K
end
theorem restS_first0 {l : List Sample} {i : Nat} (hi : i = 0) (h : 0 < l.length) (st : Int) : restS l i st = put (l[0]'h).T ++ (zz (l[0]'h).V ++ restS l (i + 1) 0) := by
  subst hi; exact restS_first rfl h st
/-- What the cursor tells of samples. -/
def RB (b : List UInt8) (out : List Sample) (bad : Bool) : Prop := (∀ s ∈ out, s.ok) ∧ ∀ l0, okS l0 = true → (∀ s ∈ l0, s.ok) → putS l0 = b → bad = false ∧ out = l0
theorem RB_ok {b : List UInt8} {out : List Sample} {bad : Bool} (h : RB b out bad) : ∀ s ∈ out, s.ok := h.1
theorem RB_end {b : List UInt8} {n : Int} {out : List Sample} {i : Nat} {p : Int} {bad : Bool} {st : Int} (h : CS b n out i p bad st) (hx : bad = true ∨ ¬ (i : Int) < wr n) : RB b out bad := by
  obtain ⟨_, _, _, _, hok, hC⟩ := h
  refine ⟨hok, fun l0 h1 h2 h3 => ?_⟩
  obtain ⟨c1, c2, c3, _⟩ := hC l0 h1 h2 h3
  have h4 := (okS_iff.1 h1).2
  rcases hx with hx | hx
  · rw [c1] at hx; cases hx
  · rw [wr_id (by simp only [i64R]; omega)] at hx
    exact ⟨c1, by rw [c3, List.take_of_length_le (by omega)]⟩
theorem RB_yes {b : List UInt8} {out : List Sample} {bad : Bool} (h : RB b out bad) (hc : (encS out).2 = 0) (he : (encS out).1 = b) : DecS b out 0 := by
  cases hm : okS out with
  | true => rw [encS_yes hm] at he; exact ⟨h.1, Or.inl ⟨rfl, hm, he⟩⟩
  | false => unfold encS at hc; rw [hm] at hc; simp at hc
theorem RB_no {b : List UInt8} {out : List Sample} {bad : Bool} (h : RB b out bad) (hx : bad = true ∨ ¬ (encS out).2 = 0 ∨ ¬ (encS out).1 = b) : DecS b [] 2 := by
  refine ⟨(by intro s hs; cases hs), Or.inr ⟨rfl, rfl, fun l0 h1 h2 h3 => ?_⟩⟩
  obtain ⟨c1, c2⟩ := h.2 l0 h1 h2 h3
  subst c2
  rw [c1, encS_yes h1] at hx
  rcases hx with hx | hx | hx
  · cases hx
  · exact hx rfl
  · exact hx h3

/-- The aggregates that the cursor has read: i of n. -/
def RA (b : List UInt8) (k n : Int) (out : List Agg) (i : Nat) (p : Int) (bad : Bool) : Prop :=
  (0 ≤ p ∧ p ≤ (b.length : Int)) ∧ out.length = i ∧ (∀ a ∈ out, a.ok) ∧
  ∀ l0, okA k l0 = true → (∀ a ∈ l0, a.ok) → putA k l0 = b → bad = false ∧ n = (l0.length : Int) ∧ out = l0.take i ∧ b.drop p.toNat = stepA2 (widthA k) (lastW (widthA k) l0 i) (l0.drop i)
theorem quo_u {a b : Int} (h0 : 0 ≤ a) (h1 : a ≤ 18446744073709551615) (hb : 0 < b) : IntKind.u64.wrap (a.tdiv b) = a / b := by
  rw [Int.tdiv_eq_ediv_of_nonneg h0]
  have h2 := Int.ediv_nonneg h0 (Int.le_of_lt hb)
  have h3 := Int.ediv_le_self b h0
  rw [IntKind.wrap_u64]; exact Int.emod_eq_of_lt h2 (by omega)
theorem lastW_zero {w : Int} {l : List Agg} {i : Nat} (h : i = 0) : lastW w l i = -1 := by subst h; rfl
theorem lastW_at {w : Int} {l : List Agg} {i : Nat} (h : 0 < i) (hl : i - 1 < l.length) : lastW w l i = (l[i - 1]'hl).From / w := by
  have := lastW_succ (w := w) hl
  rwa [show i - 1 + 1 = i from by omega] at this
theorem RA_start {b : List UInt8} {k p : Int} {bad : Bool} (hp : p = 0) (hb : bad = false) : RA b k (rnum bad b p) [] 0 (rto bad b p) (rbad bad b p) := by
  subst hp hb
  have h0 := get_to (b := b) (p := 0) (by omega) (by omega)
  refine ⟨⟨?_, h0.2⟩, rfl, (by intro s hs; cases hs), fun l0 h1 h2 h3 => ?_⟩
  · exact h0.1
  · have h4 := (okA_iff.1 h1).2
    obtain ⟨g1, g2, g3, _, _⟩ := get_pp (b := b) (rest := stepA2 (widthA k) (-1) l0) (n := (l0.length : Int)) (p := 0) (by omega) (by omega) (by omega) (by omega) (by rw [← h3]; rfl)
    exact ⟨rbad_of g2, g1, rfl, g3⟩
theorem RA_start2 {b : List UInt8} {k p : Int} {bad x : Bool} (hp : p = 0) (hb : bad = false) (h : 64 < rnum bad b p) : RA b k (rnum bad b p) [] 0 (rto bad b p) x := by
  have hr := rto_r (bad := bad) (b := b) (p := p) (by omega) (by omega)
  subst hp hb
  refine ⟨⟨by omega, hr.2⟩, rfl, (by intro s hs; cases hs), fun l0 h1 h2 h3 => ?_⟩
  have h4 := (okA_iff.1 h1).2
  obtain ⟨g1, g2, g3, _, _⟩ := get_pp (b := b) (rest := stepA2 (widthA k) (-1) l0) (n := (l0.length : Int)) (p := 0) (by omega) (by omega) (by omega) (by omega) (by rw [← h3]; rfl)
  have g4 : rnum false b 0 = (l0.length : Int) := g1
  omega
/-- Where the window of the next aggregate begins, as the cursor reckons it. -/
def FW (k : Int) (out : List Agg) (i : Nat) (N F : Int) : Prop :=
  (i = 0 ∧ F = wr (N * (widthA k % 18446744073709551616) % 18446744073709551616)) ∨
  (0 < i ∧ ∃ hl : i - 1 < out.length, F = wr (((N + 1) % 18446744073709551616 + (out[i - 1]'hl).From % 18446744073709551616 / (widthA k % 18446744073709551616)) % 18446744073709551616 * (widthA k % 18446744073709551616) % 18446744073709551616))
section
variable {b : List UInt8} {k n : Int} {out : List Agg} {i : Nat} {p : Int} {bad q : Bool} {F C : Int}
theorem FW_r {N : Int} (h : FW k out i N F) : i64R F := by
  rcases h with ⟨_, rfl⟩ | ⟨_, _, rfl⟩ <;> exact wr_r _
theorem rbad_of2 (hq : q = false) (h : (get b p).2.2 = 0) : rbad q b p = false := by subst hq; exact rbad_of h
/-- What is so of the next aggregate, if the bytes are those of a list. -/
theorem FW_is {l0 : List Agg} {N : Int} (hal : alignedA l0 k = true) (hlt : i < l0.length) (ho : out = l0.take i) (hN : N = (l0[i]'hlt).From / widthA k - lastW (widthA k) l0 i - 1) (h : FW k out i N F) : F = (l0[i]'hlt).From ∧ N ≤ 1099511627776 := by
  obtain ⟨w1, w2, w3, w4⟩ := aligned_at hal hlt
  have hge := lastW_ge hal (i := i) (by omega)
  have hwr := width_r k
  simp only [mayP] at w1
  have hwm : widthA k % 18446744073709551616 = widthA k := Int.emod_eq_of_lt (by omega) (by omega)
  refine ⟨?_, by omega⟩
  rcases h with ⟨h0, rfl⟩ | ⟨h0, hl, rfl⟩
  · subst h0
    have e : lastW (widthA k) l0 0 = -1 := rfl
    rw [e] at hN
    have e2 : N = (l0[0]'hlt).From / widthA k := by omega
    rw [hwm, e2, w2, Int.emod_eq_of_lt (by omega) (by omega), wr_id (by simp only [i64R]; omega)]
  · have e1 : lastW (widthA k) l0 i = (l0[i - 1]'(by omega)).From / widthA k := by
      have := lastW_succ (w := widthA k) (l := l0) (i := i - 1) (by omega)
      rwa [show i - 1 + 1 = i from by omega] at this
    have ew : out[i - 1]'hl = l0[i - 1]'(by omega) := by
      have : out[i - 1]? = (l0.take i)[i - 1]? := by rw [ho]
      rw [List.getElem?_eq_getElem hl, List.getElem?_take, if_pos (by omega), List.getElem?_eq_getElem (by omega)] at this
      exact Option.some.inj this
    obtain ⟨v1, _, _, v4⟩ := aligned_at hal (show i - 1 < l0.length by omega)
    simp only [mayP] at v1
    rw [e1] at hN hge
    have e3 : (N + 1) % 18446744073709551616 = N + 1 := Int.emod_eq_of_lt (by omega) (by omega)
    have e4 : (out[i - 1]'hl).From % 18446744073709551616 = (l0[i - 1]'(by omega)).From := by rw [ew]; exact Int.emod_eq_of_lt (by omega) (by omega)
    rw [hwm, e3, e4]
    have e5 : N + 1 + (l0[i - 1]'(by omega)).From / widthA k = (l0[i]'hlt).From / widthA k := by omega
    rw [e5, Int.emod_eq_of_lt (a := (l0[i]'hlt).From / widthA k) (by omega) (by omega), w2, Int.emod_eq_of_lt (by omega) (by omega), wr_id (by simp only [i64R]; omega)]
theorem RA_one (h : RA b k n out i p bad) (hn : (i : Int) < n) (hq : (q = true ∧ 1099511627776 < rnum bad b p) ∨ q = rbad bad b p) (hF : FW k out i (rnum bad b p) F) (hC : C = (rnum q b (rto bad b p)) % 4611686018427387904 + 1) (h1 : ¬ 1 < C) :
    RA b k n (out ++ [⟨F, C, (zag (rnum (rbad q b (rto bad b p)) b (rto q b (rto bad b p)))), (zag (rnum (rbad q b (rto bad b p)) b (rto q b (rto bad b p)))), (zag (rnum (rbad q b (rto bad b p)) b (rto q b (rto bad b p)))), (zag (rnum (rbad q b (rto bad b p)) b (rto q b (rto bad b p)))), (zag (rnum (rbad q b (rto bad b p)) b (rto q b (rto bad b p))))⟩]) (i + 1) (rto (rbad q b (rto bad b p)) b (rto q b (rto bad b p))) (rbad (rbad q b (rto bad b p)) b (rto q b (rto bad b p))) := by
  obtain ⟨⟨p0, p1⟩, ho, hok, hC0⟩ := h
  have t0 := rto_r (bad := bad) p0 p1
  have t1 := rto_r (bad := q) (b := b) (p := (rto bad b p)) (by omega) (by omega)
  have t2 := rto_r (bad := (rbad q b (rto bad b p))) (b := b) (p := (rto q b (rto bad b p))) (by omega) (by omega)
  have r1 := rnum_r q b (rto bad b p)
  have r2 := rnum_r (rbad q b (rto bad b p)) b (rto q b (rto bad b p))
  have z2 := zag_r r2.1 r2.2
  refine ⟨⟨by omega, t2.2⟩, by simp [ho], snoc_okA hok ⟨FW_r hF, (by simp only [i64R]; omega), z2, z2, z2, z2, z2⟩, fun l0 h1 h2 h3 => ?_⟩
  obtain ⟨c1, c2, c3, c4⟩ := hC0 l0 h1 h2 h3
  subst c1
  have hal := (okA_iff.1 h1).1
  have hlt : i < l0.length := by omega
  obtain ⟨w1, w2, w3, w4⟩ := aligned_at hal hlt
  have oa := h2 _ (List.getElem_mem hlt)
  have hge := lastW_ge hal (i := i) (by omega)
  rw [List.drop_eq_getElem_cons hlt, stepA2] at c4
  rw [← lastW_succ (w := widthA k) hlt] at c4
  unfold aggB at c4
  simp only [List.append_assoc] at c4
  simp only [Agg.ok, i64R] at oa
  simp only [mayP] at w1
  obtain ⟨g0, f0, d0, s0, s0'⟩ := get_pp (by omega) (by omega) p0 p1 c4
  obtain ⟨hF1, hF2⟩ := FW_is (N := rnum false b p) hal hlt c3 g0 hF
  have eq : q = false := by
    rcases hq with ⟨_, hq⟩ | hq
    · omega
    · rw [hq]; exact rbad_of f0
  subst eq
  obtain ⟨g1, f1, d1, s1, s1'⟩ := get_pp (by omega) (by omega) (by omega) (by omega) d0
  have ec : C = (l0[i]'hlt).Count := by
    have e : rnum false b (rto false b p) = (l0[i]'hlt).Count - 1 := g1
    rw [hC, e, Int.emod_eq_of_lt (by omega) (by omega)]; omega
  obtain ⟨g2, f2, d2, s2, s2'⟩ := get_zz (by simp only [i64R]; omega) (by omega) (by omega) d1
  have b1 : rbad false b (rto false b p) = false := rbad_of f1
  have b2 : rbad false b (rto false b (rto false b p)) = false := rbad_of f2
  have hc : (l0[i]'hlt).Count = 1 := by omega
  rw [if_pos hc, List.nil_append] at d2
  have q := agg_one (a := l0[i]'hlt) (by simp only [mayP]; omega) hc
  rw [b1, b2]
  refine ⟨rfl, c2, ?_, d2⟩
  rw [List.take_succ_eq_append_getElem hlt, ← c3]
  congr 2
  rw [agg_iff]
  exact ⟨hF1, ec, Eq.trans g2 q.1.symm, g2, Eq.trans g2 q.2.1.symm, Eq.trans g2 q.2.2.1.symm, Eq.trans g2 q.2.2.2.symm⟩
theorem RA_many (h : RA b k n out i p bad) (hn : (i : Int) < n) (hq : (q = true ∧ 1099511627776 < rnum bad b p) ∨ q = rbad bad b p) (hF : FW k out i (rnum bad b p) F) (hC : C = (rnum q b (rto bad b p)) % 4611686018427387904 + 1) (h1 : 1 < C) :
    RA b k n (out ++ [⟨F, C, (zag (rnum (rbad (rbad (rbad q b (rto bad b p)) b (rto q b (rto bad b p))) b (rto (rbad q b (rto bad b p)) b (rto q b (rto bad b p)))) b (rto (rbad (rbad q b (rto bad b p)) b (rto q b (rto bad b p))) b (rto (rbad q b (rto bad b p)) b (rto q b (rto bad b p)))))), (zag (rnum (rbad q b (rto bad b p)) b (rto q b (rto bad b p)))), (wr (((zag (rnum (rbad q b (rto bad b p)) b (rto q b (rto bad b p)))) % 18446744073709551616 + (rnum (rbad (rbad q b (rto bad b p)) b (rto q b (rto bad b p))) b (rto (rbad q b (rto bad b p)) b (rto q b (rto bad b p))))) % 18446744073709551616)), (wr (((zag (rnum (rbad q b (rto bad b p)) b (rto q b (rto bad b p)))) % 18446744073709551616 + (rnum (rbad (rbad (rbad (rbad q b (rto bad b p)) b (rto q b (rto bad b p))) b (rto (rbad q b (rto bad b p)) b (rto q b (rto bad b p)))) b (rto (rbad (rbad q b (rto bad b p)) b (rto q b (rto bad b p))) b (rto (rbad q b (rto bad b p)) b (rto q b (rto bad b p))))) b (rto (rbad (rbad (rbad q b (rto bad b p)) b (rto q b (rto bad b p))) b (rto (rbad q b (rto bad b p)) b (rto q b (rto bad b p)))) b (rto (rbad (rbad q b (rto bad b p)) b (rto q b (rto bad b p))) b (rto (rbad q b (rto bad b p)) b (rto q b (rto bad b p))))))) % 18446744073709551616)), (wr (((zag (rnum (rbad q b (rto bad b p)) b (rto q b (rto bad b p)))) % 18446744073709551616 + (rnum (rbad (rbad (rbad (rbad (rbad q b (rto bad b p)) b (rto q b (rto bad b p))) b (rto (rbad q b (rto bad b p)) b (rto q b (rto bad b p)))) b (rto (rbad (rbad q b (rto bad b p)) b (rto q b (rto bad b p))) b (rto (rbad q b (rto bad b p)) b (rto q b (rto bad b p))))) b (rto (rbad (rbad (rbad q b (rto bad b p)) b (rto q b (rto bad b p))) b (rto (rbad q b (rto bad b p)) b (rto q b (rto bad b p)))) b (rto (rbad (rbad q b (rto bad b p)) b (rto q b (rto bad b p))) b (rto (rbad q b (rto bad b p)) b (rto q b (rto bad b p)))))) b (rto (rbad (rbad (rbad (rbad q b (rto bad b p)) b (rto q b (rto bad b p))) b (rto (rbad q b (rto bad b p)) b (rto q b (rto bad b p)))) b (rto (rbad (rbad q b (rto bad b p)) b (rto q b (rto bad b p))) b (rto (rbad q b (rto bad b p)) b (rto q b (rto bad b p))))) b (rto (rbad (rbad (rbad q b (rto bad b p)) b (rto q b (rto bad b p))) b (rto (rbad q b (rto bad b p)) b (rto q b (rto bad b p)))) b (rto (rbad (rbad q b (rto bad b p)) b (rto q b (rto bad b p))) b (rto (rbad q b (rto bad b p)) b (rto q b (rto bad b p)))))))) % 18446744073709551616))⟩]) (i + 1) (rto (rbad (rbad (rbad (rbad (rbad q b (rto bad b p)) b (rto q b (rto bad b p))) b (rto (rbad q b (rto bad b p)) b (rto q b (rto bad b p)))) b (rto (rbad (rbad q b (rto bad b p)) b (rto q b (rto bad b p))) b (rto (rbad q b (rto bad b p)) b (rto q b (rto bad b p))))) b (rto (rbad (rbad (rbad q b (rto bad b p)) b (rto q b (rto bad b p))) b (rto (rbad q b (rto bad b p)) b (rto q b (rto bad b p)))) b (rto (rbad (rbad q b (rto bad b p)) b (rto q b (rto bad b p))) b (rto (rbad q b (rto bad b p)) b (rto q b (rto bad b p)))))) b (rto (rbad (rbad (rbad (rbad q b (rto bad b p)) b (rto q b (rto bad b p))) b (rto (rbad q b (rto bad b p)) b (rto q b (rto bad b p)))) b (rto (rbad (rbad q b (rto bad b p)) b (rto q b (rto bad b p))) b (rto (rbad q b (rto bad b p)) b (rto q b (rto bad b p))))) b (rto (rbad (rbad (rbad q b (rto bad b p)) b (rto q b (rto bad b p))) b (rto (rbad q b (rto bad b p)) b (rto q b (rto bad b p)))) b (rto (rbad (rbad q b (rto bad b p)) b (rto q b (rto bad b p))) b (rto (rbad q b (rto bad b p)) b (rto q b (rto bad b p))))))) (rbad (rbad (rbad (rbad (rbad (rbad q b (rto bad b p)) b (rto q b (rto bad b p))) b (rto (rbad q b (rto bad b p)) b (rto q b (rto bad b p)))) b (rto (rbad (rbad q b (rto bad b p)) b (rto q b (rto bad b p))) b (rto (rbad q b (rto bad b p)) b (rto q b (rto bad b p))))) b (rto (rbad (rbad (rbad q b (rto bad b p)) b (rto q b (rto bad b p))) b (rto (rbad q b (rto bad b p)) b (rto q b (rto bad b p)))) b (rto (rbad (rbad q b (rto bad b p)) b (rto q b (rto bad b p))) b (rto (rbad q b (rto bad b p)) b (rto q b (rto bad b p)))))) b (rto (rbad (rbad (rbad (rbad q b (rto bad b p)) b (rto q b (rto bad b p))) b (rto (rbad q b (rto bad b p)) b (rto q b (rto bad b p)))) b (rto (rbad (rbad q b (rto bad b p)) b (rto q b (rto bad b p))) b (rto (rbad q b (rto bad b p)) b (rto q b (rto bad b p))))) b (rto (rbad (rbad (rbad q b (rto bad b p)) b (rto q b (rto bad b p))) b (rto (rbad q b (rto bad b p)) b (rto q b (rto bad b p)))) b (rto (rbad (rbad q b (rto bad b p)) b (rto q b (rto bad b p))) b (rto (rbad q b (rto bad b p)) b (rto q b (rto bad b p))))))) := by
  obtain ⟨⟨p0, p1⟩, ho, hok, hC0⟩ := h
  have t0 := rto_r (bad := bad) p0 p1
  have t1 := rto_r (bad := q) (b := b) (p := (rto bad b p)) (by omega) (by omega)
  have t2 := rto_r (bad := (rbad q b (rto bad b p))) (b := b) (p := (rto q b (rto bad b p))) (by omega) (by omega)
  have t3 := rto_r (bad := (rbad (rbad q b (rto bad b p)) b (rto q b (rto bad b p)))) (b := b) (p := (rto (rbad q b (rto bad b p)) b (rto q b (rto bad b p)))) (by omega) (by omega)
  have t4 := rto_r (bad := (rbad (rbad (rbad q b (rto bad b p)) b (rto q b (rto bad b p))) b (rto (rbad q b (rto bad b p)) b (rto q b (rto bad b p))))) (b := b) (p := (rto (rbad (rbad q b (rto bad b p)) b (rto q b (rto bad b p))) b (rto (rbad q b (rto bad b p)) b (rto q b (rto bad b p))))) (by omega) (by omega)
  have t5 := rto_r (bad := (rbad (rbad (rbad (rbad q b (rto bad b p)) b (rto q b (rto bad b p))) b (rto (rbad q b (rto bad b p)) b (rto q b (rto bad b p)))) b (rto (rbad (rbad q b (rto bad b p)) b (rto q b (rto bad b p))) b (rto (rbad q b (rto bad b p)) b (rto q b (rto bad b p)))))) (b := b) (p := (rto (rbad (rbad (rbad q b (rto bad b p)) b (rto q b (rto bad b p))) b (rto (rbad q b (rto bad b p)) b (rto q b (rto bad b p)))) b (rto (rbad (rbad q b (rto bad b p)) b (rto q b (rto bad b p))) b (rto (rbad q b (rto bad b p)) b (rto q b (rto bad b p)))))) (by omega) (by omega)
  have t6 := rto_r (bad := (rbad (rbad (rbad (rbad (rbad q b (rto bad b p)) b (rto q b (rto bad b p))) b (rto (rbad q b (rto bad b p)) b (rto q b (rto bad b p)))) b (rto (rbad (rbad q b (rto bad b p)) b (rto q b (rto bad b p))) b (rto (rbad q b (rto bad b p)) b (rto q b (rto bad b p))))) b (rto (rbad (rbad (rbad q b (rto bad b p)) b (rto q b (rto bad b p))) b (rto (rbad q b (rto bad b p)) b (rto q b (rto bad b p)))) b (rto (rbad (rbad q b (rto bad b p)) b (rto q b (rto bad b p))) b (rto (rbad q b (rto bad b p)) b (rto q b (rto bad b p))))))) (b := b) (p := (rto (rbad (rbad (rbad (rbad q b (rto bad b p)) b (rto q b (rto bad b p))) b (rto (rbad q b (rto bad b p)) b (rto q b (rto bad b p)))) b (rto (rbad (rbad q b (rto bad b p)) b (rto q b (rto bad b p))) b (rto (rbad q b (rto bad b p)) b (rto q b (rto bad b p))))) b (rto (rbad (rbad (rbad q b (rto bad b p)) b (rto q b (rto bad b p))) b (rto (rbad q b (rto bad b p)) b (rto q b (rto bad b p)))) b (rto (rbad (rbad q b (rto bad b p)) b (rto q b (rto bad b p))) b (rto (rbad q b (rto bad b p)) b (rto q b (rto bad b p))))))) (by omega) (by omega)
  have r1 := rnum_r q b (rto bad b p)
  have r2 := rnum_r (rbad q b (rto bad b p)) b (rto q b (rto bad b p))
  have r4 := rnum_r (rbad (rbad (rbad q b (rto bad b p)) b (rto q b (rto bad b p))) b (rto (rbad q b (rto bad b p)) b (rto q b (rto bad b p)))) b (rto (rbad (rbad q b (rto bad b p)) b (rto q b (rto bad b p))) b (rto (rbad q b (rto bad b p)) b (rto q b (rto bad b p))))
  have z2 := zag_r r2.1 r2.2
  have z4 := zag_r r4.1 r4.2
  refine ⟨⟨by omega, t6.2⟩, by simp [ho], snoc_okA hok ⟨FW_r hF, (by simp only [i64R]; omega), z4, z2, wr_r _, wr_r _, wr_r _⟩, fun l0 h1 h2 h3 => ?_⟩
  obtain ⟨c1, c2, c3, c4⟩ := hC0 l0 h1 h2 h3
  subst c1
  have hal := (okA_iff.1 h1).1
  have hlt : i < l0.length := by omega
  obtain ⟨w1, w2, w3, w4⟩ := aligned_at hal hlt
  have oa := h2 _ (List.getElem_mem hlt)
  have hge := lastW_ge hal (i := i) (by omega)
  rw [List.drop_eq_getElem_cons hlt, stepA2] at c4
  rw [← lastW_succ (w := widthA k) hlt] at c4
  unfold aggB at c4
  simp only [List.append_assoc] at c4
  simp only [Agg.ok, i64R] at oa
  simp only [mayP] at w1
  obtain ⟨g0, f0, d0, s0, s0'⟩ := get_pp (by omega) (by omega) p0 p1 c4
  obtain ⟨hF1, hF2⟩ := FW_is (N := rnum false b p) hal hlt c3 g0 hF
  have eq : q = false := by
    rcases hq with ⟨_, hq⟩ | hq
    · omega
    · rw [hq]; exact rbad_of f0
  subst eq
  obtain ⟨g1, f1, d1, s1, s1'⟩ := get_pp (by omega) (by omega) (by omega) (by omega) d0
  have ec : C = (l0[i]'hlt).Count := by
    have e : rnum false b (rto false b p) = (l0[i]'hlt).Count - 1 := g1
    rw [hC, e, Int.emod_eq_of_lt (by omega) (by omega)]; omega
  obtain ⟨g2, f2, d2, s2, s2'⟩ := get_zz (by simp only [i64R]; omega) (by omega) (by omega) d1
  have b1 : rbad false b (rto false b p) = false := rbad_of f1
  have b2 : rbad false b (rto false b (rto false b p)) = false := rbad_of f2
  have hc : ¬ (l0[i]'hlt).Count = 1 := by omega
  rw [if_neg hc] at d2
  simp only [List.append_assoc] at d2
  obtain ⟨g3, f3, d3, s3, s3'⟩ := get_pp (by omega) (by omega) (by omega) (by omega) d2
  obtain ⟨g4, f4, d4, s4, s4'⟩ := get_zz (by simp only [i64R]; omega) (by omega) (by omega) d3
  obtain ⟨g5, f5, d5, s5, s5'⟩ := get_pp (by omega) (by omega) (by omega) (by omega) d4
  obtain ⟨g6, f6, d6, s6, s6'⟩ := get_pp (by omega) (by omega) (by omega) (by omega) d5
  have b3 : rbad false b (rto false b (rto false b (rto false b p))) = false := rbad_of f3
  have b4 : rbad false b (rto false b (rto false b (rto false b (rto false b p)))) = false := rbad_of f4
  have b5 : rbad false b (rto false b (rto false b (rto false b (rto false b (rto false b p))))) = false := rbad_of f5
  have b6 : rbad false b (rto false b (rto false b (rto false b (rto false b (rto false b (rto false b p)))))) = false := rbad_of f6
  rw [b1, b2, b3, b4, b5, b6]
  refine ⟨rfl, c2, ?_, d6⟩
  rw [List.take_succ_eq_append_getElem hlt, ← c3]
  congr 2
  rw [agg_iff]
  have n2 : zag (rnum false b (rto false b (rto false b p))) = (l0[i]'hlt).Min := g2
  refine ⟨hF1, ec, g4, g2, ?_, ?_, ?_⟩
  · have n3 : rnum false b (rto false b (rto false b (rto false b p))) = (l0[i]'hlt).Max - (l0[i]'hlt).Min := g3
    simp only []; rw [n2, n3]; exact wr_sum (by simp only [i64R]; omega) (by simp only [i64R]; omega) (by omega)
  · have n5 : rnum false b (rto false b (rto false b (rto false b (rto false b (rto false b p))))) = (l0[i]'hlt).First - (l0[i]'hlt).Min := g5
    simp only []; rw [n2, n5]; exact wr_sum (by simp only [i64R]; omega) (by simp only [i64R]; omega) (by omega)
  · have n6 : rnum false b (rto false b (rto false b (rto false b (rto false b (rto false b (rto false b p)))))) = (l0[i]'hlt).Last - (l0[i]'hlt).Min := g6
    simp only []; rw [n2, n6]; exact wr_sum (by simp only [i64R]; omega) (by simp only [i64R]; omega) (by omega)
end
/-- What the cursor tells of aggregates. -/
def RD (b : List UInt8) (k : Int) (out : List Agg) (bad : Bool) : Prop := (∀ a ∈ out, a.ok) ∧ ∀ l0, okA k l0 = true → (∀ a ∈ l0, a.ok) → putA k l0 = b → bad = false ∧ out = l0
theorem RD_ok {b : List UInt8} {k : Int} {out : List Agg} {bad : Bool} (h : RD b k out bad) : ∀ a ∈ out, a.ok := h.1
theorem RD_end {b : List UInt8} {k n : Int} {out : List Agg} {i : Nat} {p : Int} {bad : Bool} (h : RA b k n out i p bad) (hx : bad = true ∨ ¬ (i : Int) < wr n) : RD b k out bad := by
  obtain ⟨_, _, hok, hC⟩ := h
  refine ⟨hok, fun l0 h1 h2 h3 => ?_⟩
  obtain ⟨c1, c2, c3, _⟩ := hC l0 h1 h2 h3
  have h4 := (okA_iff.1 h1).2
  rcases hx with hx | hx
  · rw [c1] at hx; cases hx
  · rw [wr_id (by simp only [i64R]; omega)] at hx
    exact ⟨c1, by rw [c3, List.take_of_length_le (by omega)]⟩
theorem RD_yes {b : List UInt8} {k : Int} {out : List Agg} {bad : Bool} (h : RD b k out bad) (hk : coarseA k = true) (hc : (encA k out).2 = 0) (he : (encA k out).1 = b) : DecA k b out 0 := by
  cases hm : okA k out with
  | true => rw [encA_yes hm] at he; exact ⟨h.1, Or.inl ⟨rfl, hk, hm, he⟩⟩
  | false => unfold encA at hc; rw [hm] at hc; simp at hc
theorem RD_no {b : List UInt8} {k : Int} {out : List Agg} {bad : Bool} (h : RD b k out bad) (hk : coarseA k = true) (hx : bad = true ∨ ¬ (encA k out).2 = 0 ∨ ¬ (encA k out).1 = b) : DecA k b [] 2 := by
  refine ⟨(by intro s hs; cases hs), Or.inr (Or.inl ⟨rfl, rfl, hk, fun l0 h1 h2 h3 => ?_⟩)⟩
  obtain ⟨c1, c2⟩ := h.2 l0 h1 h2 h3
  subst c2
  rw [c1, encA_yes h1] at hx
  rcases hx with hx | hx | hx
  · cases hx
  · exact hx rfl
  · exact hx h3
end Go.Proofs.Ytpamjfbdgaamoaa
