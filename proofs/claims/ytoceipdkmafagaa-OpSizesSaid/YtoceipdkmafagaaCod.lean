import Derived.Test.YtoceipdkmafagaaWireT
/-! readers that go part by part until the first error, and what their parts' bytes are: plain laws -/
namespace Go.Cov
open Go.RowKit
/-- the next part, if there was no error -/
def nx {α : Type} (f : List UInt8 → Int → α × Int × Int) (d : α) (l : List UInt8) (s : Int × Int) : α × Int × Int := if s.2 = 0 then f l s.1 else (d, s)
/-- a number -/
def numR (l : List UInt8) (a : Int) : Int × Int × Int := getR l a 8
/-- may it be an int? -/
def I64 (n : Int) : Prop := -9223372036854775808 ≤ n ∧ n < 9223372036854775808
/-- what is put is got, what is got is put, what is cut is none -/
structure Cod {α : Type} (ok : α → Prop) (put : α → List UInt8) (get : List UInt8 → Int × Int → α × Int × Int) : Prop where
  err : ∀ l s, s.2 ≠ 0 → (get l s).2 = s
  back : ∀ pre a rest, ok a → get (pre ++ (put a ++ rest)) ((pre.length : Int), 0) = (a, (pre.length : Int) + (put a).length, 0)
  kept : ∀ l (k : Nat) a p, k ≤ l.length → get l ((k : Int), 0) = (a, p, 0) → ok a ∧ p = (k : Int) + (put a).length ∧ k + (put a).length ≤ l.length ∧ l.drop k = put a ++ l.drop (k + (put a).length)
  cut : ∀ pre a c, ok a → c < (put a).length → (get (pre ++ (put a).take c) ((pre.length : Int), 0)).2.2 = 11
theorem nx_err {α : Type} (f : List UInt8 → Int → α × Int × Int) (d : α) (l : List UInt8) (s : Int × Int) (h : s.2 ≠ 0) : (nx f d l s).2 = s := by rw [nx, if_neg h]
theorem nx_ok {α : Type} (f : List UInt8 → Int → α × Int × Int) (d : α) (l : List UInt8) (a : Int) : nx f d l (a, 0) = f l a := by rw [nx, if_pos rfl]
theorem drop_of {l r z : List UInt8} {k : Nat} (h : l.drop k = r ++ z) : l.drop k = r ++ l.drop (k + r.length) := by
  have : l.drop (k + r.length) = z := by rw [← List.drop_drop, h]; simp
  rw [this]; exact h
theorem cod_num : Cod I64 (be 8) (nx numR 0) where
  err := nx_err _ _
  back := fun pre a rest h => by rw [nx_ok, numR, num_back pre rest a h.1 h.2, be_length]; rfl
  kept := fun l k a p hk h => by
    rw [nx_ok, numR] at h
    obtain ⟨h1, r, h2, h3⟩ := num_kept h
    refine ⟨?_, by rw [be_length]; exact h1, by rw [be_length]; exact h3, drop_of h2⟩
    rcases getR_cases l k 8 with ⟨_, e⟩ | ⟨_, e⟩ | ⟨j, _, _, e⟩
    · rw [e] at h; cases h
    · rw [e] at h; cases h
    · rw [e] at h; injection h with h _
      rw [← h, gv_nat]; unfold I64 wrap64; omega
  cut := fun pre a c h hc => by
    rw [nx_ok, numR, getR_end pre _ 8 (by rw [List.length_take, be_length]; rw [be_length] at hc; omega)]
theorem cod_bool : Cod (fun _ => True) (fun b => [tb b]) (nx boolR false) where
  err := nx_err _ _
  back := fun pre a rest _ => by rw [nx_ok, bool_back]; rfl
  kept := fun l k a p hk h => by
    rw [nx_ok] at h
    obtain ⟨h1, r, h2, h3⟩ := bool_kept h
    exact ⟨trivial, h1, h3, drop_of h2⟩
  cut := fun pre a c _ hc => by
    have hc : c < 1 := hc
    rw [nx_ok, boolR, getR_end pre _ 1 (by rw [List.length_take]; omega)]; rfl
theorem cod_text : Cod (fun t => t.length ≤ 65536) tx (nx bytesR []) where
  err := nx_err _ _
  back := fun pre a rest h => by rw [nx_ok, bytes_back pre rest a h]
  kept := fun l k a p hk h => by rw [nx_ok] at h; exact bytes_kept h
  cut := fun pre a c h hc => by rw [nx_ok, bytes_cut pre a c h hc]
/-- one behind the other -/
def sq {α β : Type} (g : List UInt8 → Int × Int → α × Int × Int) (h : List UInt8 → Int × Int → β × Int × Int) (l : List UInt8) (s : Int × Int) : (α × β) × Int × Int := (((g l s).1, (h l (g l s).2).1), (h l (g l s).2).2)
section
variable {α β : Type} {ok : α → Prop} {put : α → List UInt8} {get : List UInt8 → Int × Int → α × Int × Int} {ok' : β → Prop} {put' : β → List UInt8} {get' : List UInt8 → Int × Int → β × Int × Int}
theorem Cod.seq (A : Cod ok put get) (B : Cod ok' put' get') : Cod (fun x => ok x.1 ∧ ok' x.2) (fun x => put x.1 ++ put' x.2) (sq get get') where
  err := fun l s h => by
    have h1 := A.err l s h
    show (get' l (get l s).2).2 = s
    rw [h1]; exact B.err l s h
  back := fun pre a rest h => by
    have h1 := A.back pre a.1 (put' a.2 ++ rest) h.1
    have h2 := B.back (pre ++ put a.1) a.2 rest h.2
    unfold sq
    rw [List.append_assoc, h1]
    dsimp only
    rw [List.append_assoc] at h2
    rw [List.length_append, Int.natCast_add] at h2
    rw [h2, List.length_append]
    simp only [Int.natCast_add, Int.add_assoc]
  kept := fun l k a p hk h => by
    unfold sq at h
    obtain ⟨a1, s1, h1⟩ : ∃ a1 s1, get l ((k : Int), 0) = (a1, s1) := ⟨_, _, rfl⟩
    rw [h1] at h
    dsimp only at h
    injection h with ha hs
    have hz : s1.2 = 0 := by
      by_cases hz : s1.2 = 0
      · exact hz
      · rw [B.err l s1 hz] at hs; rw [hs]
    obtain ⟨p1, e1⟩ := s1
    have hz : e1 = 0 := hz
    subst hz
    obtain ⟨k1, k2, k3, k4⟩ := A.kept l k a1 p1 hk h1
    have k2' : p1 = ((k + (put a1).length : Nat) : Int) := by omega
    rw [k2'] at hs ha
    obtain ⟨b1, s2, h2⟩ : ∃ b1 s2, get' l (((k + (put a1).length : Nat) : Int), 0) = (b1, s2) := ⟨_, _, rfl⟩
    rw [h2] at hs ha
    dsimp only at hs ha
    subst hs ha
    obtain ⟨m1, m2, m3, m4⟩ := B.kept l _ b1 p k3 h2
    dsimp only
    refine ⟨⟨k1, m1⟩, ?_, ?_, ?_⟩
    · rw [m2, List.length_append]; omega
    · rw [List.length_append]; omega
    · rw [k4, m4, List.length_append, List.append_assoc, Nat.add_assoc]
  cut := fun pre a c h hc => by
    unfold sq
    dsimp only
    rw [List.length_append] at hc
    by_cases h1 : c < (put a.1).length
    · rw [List.take_append_of_le_length (by omega)]
      have h2 := A.cut pre a.1 c h.1 h1
      rw [B.err _ _ (by rw [h2]; decide)]; exact h2
    · rw [List.take_append, List.take_of_length_le (by omega)]
      rw [A.back pre a.1 _ h.1]
      have h2 := B.cut (pre ++ put a.1) a.2 (c - (put a.1).length) h.2 (by omega)
      rw [List.append_assoc, List.length_append, Int.natCast_add] at h2
      exact h2
/-- the same under another name -/
theorem Cod.iso (A : Cod ok put get) (f : α → β) (g : β → α) (hfg : ∀ b, f (g b) = b) (hgf : ∀ a, g (f a) = a) : Cod (fun b => ok (g b)) (fun b => put (g b)) (fun l s => (f (get l s).1, (get l s).2)) where
  err := fun l s h => A.err l s h
  back := fun pre a rest h => by rw [A.back pre (g a) rest h, hfg]
  kept := fun l k a p hk h => by
    injection h with h1 h2
    refine A.kept l k (g a) p hk ?_
    rw [← h1, hgf, ← h2]
  cut := fun pre a c h hc => A.cut pre (g a) c h hc
/-- so many of them -/
def getL (g : List UInt8 → Int × Int → α × Int × Int) : Nat → List UInt8 → Int × Int → List α × Int × Int
  | 0, _, s => ([], s)
  | n + 1, l, s => if s.2 = 0 then ((g l s).1 :: (getL g n l (g l s).2).1, (getL g n l (g l s).2).2) else ([], s)
theorem getL_err (g : List UInt8 → Int × Int → α × Int × Int) (n : Nat) (l : List UInt8) (s : Int × Int) (h : s.2 ≠ 0) : getL g n l s = ([], s) := by
  cases n with
  | zero => rfl
  | succ n => rw [getL, if_neg h]
theorem getL_ok (g : List UInt8 → Int × Int → α × Int × Int) (n : Nat) (l : List UInt8) (s : Int × Int) (h : s.2 = 0) : getL g (n + 1) l s = ((g l s).1 :: (getL g n l (g l s).2).1, (getL g n l (g l s).2).2) := by
  rw [getL, if_pos h]
theorem Cod.many (A : Cod ok put get) : ∀ n, Cod (fun xs => xs.length = n ∧ ∀ x ∈ xs, ok x) (fun xs => xs.flatMap put) (getL get n)
  | 0 => {
    err := fun l s _ => rfl
    back := fun pre a rest h => by
      obtain rfl := List.eq_nil_of_length_eq_zero h.1
      simp [getL]
    kept := fun l k a p hk h => by
      rw [getL] at h
      injection h with h1 h2
      injection h2 with h2 _
      subst h1 h2
      simp
      exact hk
    cut := fun pre a c h hc => by
      obtain rfl := List.eq_nil_of_length_eq_zero h.1
      simp at hc }
  | n + 1 => by
    have B := A.seq (A.many n)
    refine ⟨fun l s h => by rw [getL_err _ _ _ _ h], fun pre a rest h => ?_, fun l k a p hk h => ?_, fun pre a c h hc => ?_⟩
    · obtain ⟨h1, h2⟩ := h
      match a, h1 with
      | x :: xs, h1 =>
        have hB := B.back pre (x, xs) rest ⟨h2 _ (List.mem_cons_self ..), by simpa using h1, fun y hy => h2 y (List.mem_cons_of_mem _ hy)⟩
        rw [getL_ok _ _ _ _ rfl]
        unfold sq at hB
        rw [List.flatMap_cons]
        dsimp only at hB ⊢
        injection hB with e1 e2
        injection e1 with e1 e3
        rw [e1, e2, e3]
    · rw [getL_ok _ _ _ _ rfl] at h
      injection h with h1 h2
      obtain ⟨q, hq⟩ : ∃ q, q = (getL get n l (get l ((k : Int), 0)).2).1 := ⟨_, rfl⟩
      have hB := B.kept l k ((get l ((k : Int), 0)).1, q) p hk (by unfold sq; rw [h2, hq])
      dsimp only at hB
      rw [← hq] at h1
      subst h1
      rw [List.flatMap_cons]
      obtain ⟨⟨b1, b2, b3⟩, b4⟩ := hB
      refine ⟨⟨by simp [b2], fun x hx => ?_⟩, b4⟩
      rcases List.mem_cons.1 hx with rfl | hx
      · exact b1
      · exact b3 x hx
    · obtain ⟨h1, h2⟩ := h
      match a, h1 with
      | x :: xs, h1 =>
        rw [getL_ok _ _ _ _ rfl]
        exact B.cut pre (x, xs) c ⟨h2 _ (List.mem_cons_self ..), by simpa using h1, fun y hy => h2 y (List.mem_cons_of_mem _ hy)⟩ hc
/-- an error if there are too many -/
def chk (most er : Int) (r : Int × Int × Int) : Int × Int := if r.2.2 = 0 ∧ (r.1 < 0 ∨ most < r.1) then (r.2.1, er) else r.2
/-- how many, and so many -/
def cnt (most er : Int) (g : List UInt8 → Int × Int → α × Int × Int) (l : List UInt8) (s : Int × Int) : List α × Int × Int := getL g (nx numR 0 l s).1.toNat l (chk most er (nx numR 0 l s))
theorem chk_ok {most er n p : Int} (h : 0 ≤ n ∧ n ≤ most) : chk most er (n, p, 0) = (p, 0) := by
  unfold chk; rw [if_neg]; dsimp only; omega
theorem Cod.count (A : Cod ok put get) (most : Nat) (er : Int) (hm : most < 9223372036854775808) (he : er ≠ 0) : Cod (fun xs => xs.length ≤ most ∧ ∀ x ∈ xs, ok x) (fun xs => be 8 xs.length ++ xs.flatMap put) (cnt most er get) where
  err := fun l s h => by
    unfold cnt
    have e : nx numR 0 l s = (0, s) := by rw [nx, if_neg h]
    rw [e]
    have e2 : chk most er (0, s) = s := by unfold chk; rw [if_neg]; exact fun hh => h hh.1
    rw [e2]; rfl
  back := fun pre a rest h => by
    have hB := (cod_num.seq (A.many a.length)).back pre ((a.length : Int), a) rest ⟨by unfold I64; omega, rfl, h.2⟩
    unfold sq at hB
    dsimp only at hB
    injection hB with e1 e2
    injection e1 with e1 e3
    have e4 := cod_num.back pre (a.length : Int) (a.flatMap put ++ rest) (by unfold I64; omega)
    rw [List.append_assoc] at *
    unfold cnt
    rw [e4] at e2 e3 ⊢
    rw [chk_ok (by omega)]
    dsimp only at e2 e3 ⊢
    rw [Int.toNat_natCast, ← e2]
    exact Prod.ext e3 rfl
  kept := fun l k a p hk h => by
    unfold cnt at h
    obtain ⟨n, s1, h1⟩ : ∃ n s1, nx numR 0 l ((k : Int), 0) = (n, s1) := ⟨_, _, rfl⟩
    rw [h1] at h
    dsimp only at h
    obtain ⟨p1, e1⟩ := s1
    by_cases hz : (chk most er (n, p1, e1)).2 = 0
    · have hb : e1 = 0 ∧ ¬ (n < 0 ∨ (most : Int) < n) := by
        unfold chk at hz
        dsimp only at hz
        split at hz
        · exact absurd hz he
        · rename_i hh
          dsimp only at hz
          exact ⟨hz, fun g => hh ⟨hz, g⟩⟩
      obtain ⟨rfl, hn⟩ := hb
      rw [chk_ok (by omega)] at h
      have hB := (cod_num.seq (A.many n.toNat)).kept l k (n, a) p hk (by unfold sq; rw [h1]; dsimp only; rw [h])
      dsimp only at hB
      obtain ⟨⟨b1, b2, b3⟩, b4⟩ := hB
      have : (a.length : Int) = n := by omega
      rw [this]
      exact ⟨⟨by omega, b3⟩, b4⟩
    · rw [getL_err _ _ _ _ hz] at h
      injection h with _ h
      rw [h] at hz
      exact absurd rfl hz
  cut := fun pre a c h hc => by
    have hB := (cod_num.seq (A.many a.length)).cut pre ((a.length : Int), a) c ⟨by unfold I64; omega, rfl, h.2⟩ hc
    unfold sq at hB
    dsimp only at hB
    unfold cnt
    by_cases h1 : c < (be 8 (a.length : Int)).length
    · rw [List.take_append_of_le_length (by omega)] at hB ⊢
      have h2 := cod_num.cut pre (a.length : Int) c (by unfold I64; omega) h1
      have e2 : ∀ r : Int × Int × Int, r.2.2 = 11 → (chk most er r) = r.2 := fun r hr => by unfold chk; rw [if_neg]; intro hh; rw [hr] at hh; exact absurd hh.1 (by decide)
      rw [e2 _ h2]
      rw [getL_err _ _ _ _ (by rw [h2]; decide)]
      exact h2
    · rw [List.take_append, List.take_of_length_le (by omega)] at hB ⊢
      rw [cod_num.back pre (a.length : Int) _ (by unfold I64; omega)] at hB ⊢
      rw [chk_ok (by omega), Int.toNat_natCast]
      exact hB
/-- all of some bytes -/
def whole (right : α → Bool) (er : Int) (d : α) (get : List UInt8 → Int × Int → α × Int × Int) (l : List UInt8) : α × Int :=
  if (get l (0, 0)).2.2 = 0 then (if (get l (0, 0)).2.1 = l.length ∧ right (get l (0, 0)).1 = true then ((get l (0, 0)).1, 0) else (d, er)) else (d, (get l (0, 0)).2.2)
theorem whole_back (A : Cod ok put get) {right : α → Bool} {er : Int} {d a : α} (hr : right a = true) (ho : ok a) : whole right er d get (put a) = (a, 0) := by
  have h := A.back [] a [] ho
  simp only [List.nil_append, List.append_nil, List.length_nil, Int.natCast_zero, Int.zero_add] at h
  unfold whole
  rw [h]
  rw [if_pos rfl, if_pos ⟨rfl, hr⟩]
theorem whole_kept (A : Cod ok put get) {right : α → Bool} {er : Int} {d a : α} {l : List UInt8} (he : er ≠ 0) (h : whole right er d get l = (a, 0)) : right a = true ∧ ok a ∧ put a = l := by
  unfold whole at h
  obtain ⟨a1, p, e, h1⟩ : ∃ a1 p e, get l (0, 0) = (a1, p, e) := ⟨_, _, _, rfl⟩
  rw [h1] at h
  dsimp only at h
  split at h
  · rename_i hz
    subst hz
    split at h
    · rename_i hp
      injection h with h _
      subst h
      obtain ⟨k1, k2, k3, k4⟩ := A.kept l 0 a1 p (Nat.zero_le _) h1
      refine ⟨hp.2, k1, ?_⟩
      rw [List.drop_zero, Nat.zero_add, List.drop_of_length_le (by omega), List.append_nil] at k4
      exact k4.symm
    · injection h with _ h; exact absurd h he
  · rename_i hz
    injection h with _ h; exact absurd h hz
theorem whole_cut (A : Cod ok put get) {right : α → Bool} {er : Int} {d a : α} {c : Nat} (ho : ok a) (hc : c < (put a).length) : whole right er d get ((put a).take c) = (d, 11) := by
  have h := A.cut [] a c ho hc
  simp only [List.nil_append, List.length_nil, Int.natCast_zero] at h
  unfold whole
  rw [if_neg (by rw [h]; decide), h]
end
end Go.Cov
