import Derived.Test.YtgkdnhbhmebmeaaDoorPostB
import Derived.Test.YtgkdnhbhmebmeaaDoorPostC
import Derived.Test.YtgkdnhbhmebmeaaDoorPostE
import Derived.Test.YtgkdnhbhmebmeaaDoorPostI
import Derived.Test.YtgkdnhbhmebmeaaDoorPlain1
/-! post: the next parts into places, in a bundle -/
namespace Go.Proofs.YtgkdnhbhmebmeaaDoor
open Go.RowKit Go.Cov
section
variable {w0 W : World} {res mb rb c : Nat} {zs : List Value} {ps : List (Addr × Value)} {A : Option Addr} {l : List UInt8} {s : Int × Int} {X : World → Prop}
theorem pg_places (h : Pg w0 W res mb rb zs ps A c l s X) : ∀ j, j < ps.length → Bt mb rb (adr ps j).block ∧ (adr ps j).block ≠ rb ∧ (adr ps j).spot = none := fun j hj => by
  obtain ⟨u, hu, _, _⟩ := h.mem.at' hj
  obtain ⟨h1, h2, h3⟩ := h.inp j _ _ hu
  exact ⟨⟨h1, by omega⟩, by omega, h3⟩
theorem pg_bytes (h : Pg w0 W res mb rb zs ps A c l s X) : l ≠ [] → ∀ ad, A = some ad → ¬ Bt mb rb ad.block := fun hl ad ha hb => by
  have := h.old hl ad ha; have := hb.1; omega
theorem pg_num (h : Pg w0 W res mb rb zs ps A c l s X) {tb cT : Nat} {js : List Nat} (n : Nat) (hn : js.length = n) (hn2 : n ≤ 100) (hT : Rd W (some ⟨tb, 0, none⟩) (js.map (fun j => Value.pointer (some (adr ps j))))) (htb : rb < tb) (hj : ∀ j ∈ js, j < ps.length)
    {ps1 : List (Addr × Value)} {s1 : Int × Int} (hin : intoS (fun l a => getR l a 8) (Value.int .i64) l ps js s = (ps1, s1)) (hq : ∀ (i : Nat) (p : Addr) (v : Value), ps1[i]? = some (p, v) → mb ≤ p.block ∧ p.block < rb ∧ p.spot = none) :
    Calls Tryd.prog 27 #[.pointer (some ⟨rb, 0, none⟩), .func (.func 28) #[] #[], .slice (some ⟨tb, 0, none⟩) n cT] W fun e w' => ∃ r, e = .returned r ∧ Pg w0 w' res mb rb zs ps1 A c l s1 X := by
  refine (intonum_any n hn hn2 h.rr h.mem (Bt mb rb) ⟨h.ord.2.2, Nat.le_refl _⟩ (pg_places h) (pg_bytes h) hT (fun ad ha hb => ?_) hj).mono ?_
  · cases ha; have := hb.2; dsimp only at this; omega
  · rintro e w' ⟨r, rfl, h1, h2, h3⟩
    rw [hin] at h1 h2
    exact ⟨r, rfl, h.next h2 h1 h3 hq⟩
theorem pg_bool (h : Pg w0 W res mb rb zs ps A c l s X) {tb cT : Nat} {js : List Nat} (n : Nat) (hn : js.length = n) (hn2 : n ≤ 100) (hT : Rd W (some ⟨tb, 0, none⟩) (js.map (fun j => Value.pointer (some (adr ps j))))) (htb : rb < tb) (hj : ∀ j ∈ js, j < ps.length)
    {ps1 : List (Addr × Value)} {s1 : Int × Int} (hin : intoS (fun l a => boolR l a) (Value.bool) l ps js s = (ps1, s1)) (hq : ∀ (i : Nat) (p : Addr) (v : Value), ps1[i]? = some (p, v) → mb ≤ p.block ∧ p.block < rb ∧ p.spot = none) :
    Calls Tryd.prog 31 #[.pointer (some ⟨rb, 0, none⟩), .func (.func 32) #[] #[], .slice (some ⟨tb, 0, none⟩) n cT] W fun e w' => ∃ r, e = .returned r ∧ Pg w0 w' res mb rb zs ps1 A c l s1 X := by
  refine (intobool_any n hn hn2 h.rr h.mem (Bt mb rb) ⟨h.ord.2.2, Nat.le_refl _⟩ (pg_places h) (pg_bytes h) hT (fun ad ha hb => ?_) hj).mono ?_
  · cases ha; have := hb.2; dsimp only at this; omega
  · rintro e w' ⟨r, rfl, h1, h2, h3⟩
    rw [hin] at h1 h2
    exact ⟨r, rfl, h.next h2 h1 h3 hq⟩
theorem pg_text (h : Pg w0 W res mb rb zs ps A c l s X) {tb cT j : Nat} {q : Addr} (hT : Rd W (some ⟨tb, 0, none⟩) [Value.pointer (some q)]) (htb : rb < tb) (hj : ps[j]? = some (q, .slice none 0 0)) :
    Calls Tryd.prog 29 #[.pointer (some ⟨rb, 0, none⟩), .func (.func 30) #[] #[], .slice (some ⟨tb, 0, none⟩) 1 cT] W fun e w' => ∃ r v, e = .returned r ∧ w'.ownsRow W.heap.size 5 1 v (nx bytesR [] l s).1.length ((nx bytesR [] l s).1.map byt) ∧ Pg w0 w' res mb rb zs (ps.set j (q, v)) A c l (nx bytesR [] l s).2 X := by
  refine (intotext_any h.rr h.mem (Bt mb rb) ⟨h.ord.2.2, Nat.le_refl _⟩ (fun k hk => Nat.lt_of_le_of_lt hk.2 h.rr.row.1) (pg_places h) (pg_bytes h) hT (fun ad ha hb => ?_) hj).mono ?_
  · cases ha; have := hb.2; dsimp only at this; omega
  · rintro e w' ⟨r, rfl, h1, v, ho, h2, h3⟩
    rw [putAt_of hj] at h2
    refine ⟨r, v, rfl, ho, h.next h2 h1 h3 (fun i p u hi => ?_)⟩
    by_cases hij : i = j
    · subst hij
      rw [List.getElem?_set_self (List.getElem?_eq_some_iff.1 hj).1] at hi
      injection hi with hi
      injection hi with e1 e2
      subst e1
      exact h.inp _ _ _ hj
    · rw [List.getElem?_set_ne (Ne.symm hij)] at hi
      exact h.inp _ _ _ hi
theorem rowPl_adr {b j : Nat} {vs : List Value} (hj : j < vs.length) : adr (rowPl b 0 vs) j = ⟨b, j, none⟩ := by
  have : (rowPl b 0 vs)[j]? = some (⟨b, j, none⟩, vs[j]) := by rw [rowPl_at, List.getElem?_eq_getElem hj, Nat.zero_add]; rfl
  exact adr_of this
theorem pgx_places {xb : Nat} {vs : List Value} (hx : rb < xb) : ∀ j, j < (rowPl xb 0 vs).length → (fun k => k = xb ∨ k = rb) (adr (rowPl xb 0 vs) j).block ∧ (adr (rowPl xb 0 vs) j).block ≠ rb ∧ (adr (rowPl xb 0 vs) j).spot = none := fun j hj => by
  rw [rowPl_len] at hj
  rw [rowPl_adr hj]
  exact ⟨.inl rfl, by dsimp only; omega, rfl⟩
theorem pgx_bytes (h : Pg w0 W res mb rb zs ps A c l s X) {xb : Nat} (hx : rb < xb) : l ≠ [] → ∀ ad, A = some ad → ¬ (fun k => k = xb ∨ k = rb) ad.block := fun hl ad ha hb => by
  have := h.old hl ad ha; have := h.ord
  dsimp only at hb
  omega
theorem pgx_num (h : Pg w0 W res mb rb zs ps A c l s X) {xb tb cT : Nat} {v : Value} (hM : Mem W (rowPl xb 0 [.int .i64 0, .int .i64 0, v])) (hx : rb < xb) (hT : Rd W (some ⟨tb, 0, none⟩) [.pointer (some ⟨xb, 0, none⟩), .pointer (some ⟨xb, 1, none⟩)]) (htb : xb < tb) :
    Calls Tryd.prog 27 #[.pointer (some ⟨rb, 0, none⟩), .func (.func 28) #[] #[], .slice (some ⟨tb, 0, none⟩) 2 cT] W fun e w' => ∃ r, e = .returned r ∧ Rr w' rb A c l (nx numR 0 l (nx numR 0 l s).2).2 ∧ Mem w' (rowPl xb 0 [.int .i64 (nx numR 0 l s).1, .int .i64 (nx numR 0 l (nx numR 0 l s).2).1, v]) ∧ Gs (fun k => k = xb ∨ k = rb) W w' := by
  refine (intonum_any (js := [0, 1]) 2 rfl (by omega) h.rr hM (fun k => k = xb ∨ k = rb) (.inr rfl) (pgx_places hx) (pgx_bytes h hx) hT (fun ad ha hb => ?_) (by show ∀ j ∈ [0, 1], j < 3; decide)).mono ?_
  · cases ha; dsimp only at hb; omega
  · rintro e w' ⟨r, rfl, h1, h2, h3⟩
    rw [into_en] at h1 h2
    exact ⟨r, rfl, h1, h2, h3⟩
theorem pgx_text (h : Pg w0 W res mb rb zs ps A c l s X) {xb tb cT : Nat} {x y : Value} (hM : Mem W (rowPl xb 0 [x, y, .slice none 0 0])) (hx : rb < xb) (hxl : xb < W.heap.size) (hT : Rd W (some ⟨tb, 0, none⟩) [.pointer (some ⟨xb, 2, none⟩)]) (htb : xb < tb) :
    Calls Tryd.prog 29 #[.pointer (some ⟨rb, 0, none⟩), .func (.func 30) #[] #[], .slice (some ⟨tb, 0, none⟩) 1 cT] W fun e w' => ∃ r v, e = .returned r ∧ w'.ownsRow W.heap.size 5 1 v (nx bytesR [] l s).1.length ((nx bytesR [] l s).1.map byt) ∧ Rr w' rb A c l (nx bytesR [] l s).2 ∧ Mem w' (rowPl xb 0 [x, y, v]) ∧ Gs (fun k => k = xb ∨ k = rb) W w' := by
  refine (intotext_any (j := 2) (q := ⟨xb, 2, none⟩) h.rr hM (fun k => k = xb ∨ k = rb) (.inr rfl) (fun k hk => by rcases hk with rfl | rfl; exact hxl; omega) (pgx_places hx) (pgx_bytes h hx) hT (fun ad ha hb => ?_) rfl).mono ?_
  · cases ha; dsimp only at hb; omega
  · rintro e w' ⟨r, rfl, h1, v, ho, h2, h3⟩
    rw [putAt_of (j := 2) (q := ⟨xb, 2, none⟩) (u := .slice none 0 0) rfl, en_set2] at h2
    exact ⟨r, v, rfl, ho, h1, h2, h3⟩
end
end Go.Proofs.YtgkdnhbhmebmeaaDoor
