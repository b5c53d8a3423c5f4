/- Functions of the program as plain Lean, and what they come to. Conditions: none. -/
import Derived.Test.YtkdeheoonannoaaDoorEwD
import Derived.Test.YtkdeheoonannoaaDoorPureS
open Go Go.Ew
namespace Go.Proofs.YtkdeheoonannoaaDoor.E
open Go.IntKind (wrap)
set_option linter.unusedVariables false
set_option linter.unusedSimpArgs false
set_option maxRecDepth 100000
/-! what the reference puts together is what the listing puts together -/
theorem hex_dec (lo : Nat) : decide ((4 : Nat) + ByteArray.size (hexB lo, ()).1 ≤ 9223372036854775807) = true := by rw [decide_eq_true_eq]; show 4 + (hexB lo).size ≤ _; rw [hex_size]; decide
theorem ref_db {s : ByteArray} {lo hi : Nat} (h1 : lo < 256) (hn : ref06_number.F (s, ()) = some ((lo : Int), (hi : Int), ())) (e : dbS lo = s) : ref06_Assemble.F (s, ()) = some ([(lo : Int)], 0, ()) := by
  unfold ref06_Assemble.F ref06_Assemble.C ref06_Assemble.G
  refine (bind_eq hn).trans ?_
  refine (bind_eq (rhex_spec h1)).trans ?_
  refine (if_pos (hex_dec lo)).trans ?_
  exact if_pos (sEq_iff.2 e.symm)
theorem ref_loop {s : ByteArray} {lo hi : Nat} (h1 : lo < 256) (hn : ref06_number.F (s, ()) = some ((lo : Int), (hi : Int), ())) (e : dbS lo ≠ s) {R} (hR : ref06_Assemble.L0.F ((s, (lo : Int), (hi : Int), 0, ()), (), ()) = some R) :
    ref06_Assemble.F (s, ()) = Sum.elim (fun y3 : (Int × Unit) × Unit × ((List Int) × Unit) => some (List.take (List.length y3.2.2.1) (List.drop 0 y3.2.2.1), y3.1)) (fun _ => some ([], 6, ())) R := by
  unfold ref06_Assemble.F ref06_Assemble.C ref06_Assemble.G
  refine (bind_eq hn).trans ?_
  refine (bind_eq (rhex_spec h1)).trans ?_
  refine (if_pos (hex_dec lo)).trans ?_
  refine (if_neg (fun z => e (sEq_iff.1 z).symm)).trans ?_
  exact bind_eq hR
theorem TL_of {i lo hi : Nat} {s : ByteArray} (e : TX i lo hi = s) : TL i lo hi = s.data.toList := by rw [← e]; rfl
theorem TX_of {i lo hi : Nat} {s : ByteArray} (e : TL i lo hi = s.data.toList) : TX i lo hi = s := ba_ext e
theorem ill_TL {i lo hi : Nat} (h : i < 256) (k : kN i false = 5) : TL i lo hi = DBL i := by
  show (evL (dolB lo) (dolW hi lo) (txI i)).toArray.toList = _
  rw [ill_tx ⟨i, h⟩ k, evL_cs]
  rfl
theorem not_good {i : Nat} (h : i < 256) (k : kN i false ≠ 6) (g : ¬ goodI i = true) : kN i false = 5 := by
  rcases (good_k ⟨i, h⟩).1 (by cases e : goodI i with | true => exact absurd e g | false => rfl) with q | q
  · exact q
  · exact absurd q k
theorem gcb {i : Nat} (h : i < 256) : goodI (256 + i) = true := good_cb ⟨i, h⟩
theorem ref_hit1 {s : ByteArray} {lo hi k : Nat} (h1 : lo < 256) (h2 : hi < 256) (hn : ref06_number.F (s, ()) = some ((lo : Int), (hi : Int), ())) (hk : k < 256) (g : goodI k = true) (e : TX k lo hi = s) :
    ref06_Assemble.F (s, ()) = some (List.take (lN k false) [(k : Int), (lo : Int), (hi : Int)], 0, ()) := by
  have nd : dbS lo ≠ s := fun z => db_no (by omega) g h1 h2 h1 (by rw [TL_of e, ← z, db_list])
  have m : M1 s lo hi k := ⟨((good_k ⟨k, hk⟩).2 g).2, e⟩
  have := am_hit h1 h2 hk (fun i hi' ⟨q1, q2⟩ => by
    by_cases gi : goodI i = true
    · have := uniq (i := i) (j := k) (by omega) (by omega) gi g h1 h2 h1 h2 (by rw [TL_of q2, TL_of e])
      omega
    · exact db_no (i := k) (v := i) (by omega) g h1 h2 (by omega) (by rw [TL_of e, ← TL_of q2, ill_TL (by omega) (not_good (by omega) q1 gi)]))
    (fun i hi' q => by
      have := uniq (i := 256 + i) (j := k) (lo := 0) (hi := 0) (by omega) (by omega) (gcb (by omega)) g (by decide) (by decide) h1 h2 (by rw [TL_of q, TL_of e])
      omega) ((am_step hk h1 h2).2.1 m)
  rw [ref_loop h1 hn nd this]
  show some (List.take _ (List.drop 0 _), (0 : Int), ()) = _
  rw [whole1]
theorem ref_hit2 {s : ByteArray} {lo hi k : Nat} (h1 : lo < 256) (h2 : hi < 256) (hn : ref06_number.F (s, ()) = some ((lo : Int), (hi : Int), ())) (hk : k < 256) (e : TX (256 + k) 0 0 = s) :
    ref06_Assemble.F (s, ()) = some ([203, (k : Int)], 0, ()) := by
  have g := gcb hk
  have nd : dbS lo ≠ s := fun z => db_no (i := 256 + k) (lo := 0) (hi := 0) (by omega) g (by decide) (by decide) h1 (by rw [TL_of e, ← z, db_list])
  have n1 : ∀ i, i < 256 → ¬ M1 s lo hi i := fun i hi' ⟨q1, q2⟩ => by
    by_cases gi : goodI i = true
    · have := uniq (i := i) (j := 256 + k) (lo' := 0) (hi' := 0) (by omega) (by omega) gi g h1 h2 (by decide) (by decide) (by rw [TL_of q2, TL_of e])
      omega
    · exact db_no (i := 256 + k) (lo := 0) (hi := 0) (v := i) (by omega) g (by decide) (by decide) (by omega) (by rw [TL_of e, ← TL_of q2, ill_TL (by omega) (not_good (by omega) q1 gi)])
  have := am_hit h1 h2 hk (fun i hi' => n1 i (by omega)) (fun i hi' q => by
      have := uniq (i := 256 + i) (j := 256 + k) (lo := 0) (hi := 0) (lo' := 0) (hi' := 0) (by omega) (by omega) (gcb (by omega)) g (by decide) (by decide) (by decide) (by decide) (by rw [TL_of q, TL_of e])
      omega) ((am_step hk h1 h2).2.2 (n1 k hk) e)
  rw [ref_loop h1 hn nd this]
  rfl
theorem num_db {s : ByteArray} (hs : s.size ≤ 140737488355328) {v : Nat} (h : v < 256) (e : s.data.toList = DBL v) : ref06_number.F (s, ()) = some ((v : Int), 0, ()) := by
  have n36 : (36 : UInt8) ∉ hx v := fun z => (hx_mem h _ z).2.2.1 rfl
  have := number_some hs (p := by8 [68, 66, 32]) (r := hx v) e n36
  have e2 := numT_b h (q := []) (by simp) rfl
  rw [show hx v ++ by8 [] = hx v from List.append_nil _] at e2
  rw [this, e2]; rfl
theorem ref_none {s : ByteArray} (hs : s.size ≤ 140737488355328) (nd : ∀ v, v < 256 → dbS v ≠ s) (n1 : ∀ i lo hi, i < 512 → lo < 256 → hi < 256 → goodI i = true → TX i lo hi ≠ s) :
    ref06_Assemble.F (s, ()) = some ([], 6, ()) := by
  obtain ⟨lo, hi, h1, h2, hn⟩ := number_any hs
  have := am_none (s := s) h1 h2 (fun i hi' ⟨q1, q2⟩ => by
    by_cases gi : goodI i = true
    · exact n1 i lo hi (by omega) h1 h2 gi q2
    · exact nd i hi' (ba_ext (by rw [db_list, ← TL_of q2, ill_TL hi' (not_good hi' q1 gi)])))
    (fun i hi' q => n1 (256 + i) 0 0 (by omega) (by decide) (by decide) (gcb hi') q)
  rw [ref_loop h1 hn (nd lo h1) this]
  rfl
theorem lt97_T {i lo hi : Nat} (h : i < 512) (h1 : lo < 256) (h2 : hi < 256) : ∀ c ∈ TL i lo hi, c.toNat < 97 := by
  have f := info h
  intro c hc
  rw [TL_eq h, List.mem_append, List.mem_append] at hc
  rcases hc with q | q | q
  · exact (by8_lt f.a c q).2
  · have hz := f.z
    have : ∀ z, z < 3 → c ∈ zT lo hi z → c.toNat < 97 := by
      intro z hz hc
      match z, hz, hc with
      | 0, _, hc => exact nomatch hc
      | 1, _, hc =>
        rcases List.mem_cons.1 hc with e | e
        · rw [e]; decide
        · exact (hx_mem h1 c e).2.1
      | 2, _, hc =>
        rcases List.mem_cons.1 hc with e | e
        · rw [e]; decide
        · rcases List.mem_append.1 e with e | e
          · exact (hx_mem h2 c e).2.1
          · exact (hx_mem h1 c e).2.1
    exact this _ hz q
  · exact (by8_lt f.c c q).2
theorem KT0 {i lo hi : Nat} (h : i < 512) (z : txZ i = 0) : KL i = TL i lo hi := by rw [KL_eq h, TL_eq h, z]; rfl
theorem key_z {i : Nat} (h : i < 512) {c : UInt8} (hc : c ∈ KL i) (h97 : 97 ≤ c.toNat) : (txZ i = 1 ∧ c = 98) ∨ (txZ i = 2 ∧ c = 119) := by
  have f := info h
  rw [KL_eq h, List.mem_append, List.mem_append] at hc
  rcases hc with q | q | q
  · exact absurd (by8_lt f.a c q).2 (by omega)
  · have : ∀ z, z < 3 → c ∈ zK z → (z = 1 ∧ c = 98) ∨ (z = 2 ∧ c = 119) := by
      intro z hz hc
      match z, hz, hc with
      | 0, _, hc => exact nomatch hc
      | 1, _, hc => exact .inl ⟨rfl, List.mem_singleton.1 hc⟩
      | 2, _, hc => exact .inr ⟨rfl, List.mem_singleton.1 hc⟩
    exact this _ f.z q
  · exact absurd (by8_lt f.c c q).2 (by omega)
theorem by8_no {l : List Nat} (h : ∀ n ∈ l, 0 < n ∧ n < 97) {c : UInt8} (hc : 97 ≤ c.toNat) : c ∉ by8 l := fun z => absurd (by8_lt h c z).2 (by omega)
theorem hit4 {s : ByteArray} {i lo hi : Nat} (h : i < 512) (h1 : lo < 256) (h2 : hi < 256) (z : txZ i = 2) (e : TL i lo hi = s.data.toList) : (bareR s 4 (bs [119])).2.2 = true ∧ (bareR s 4 (bs [119])).1.data.toList = KL i := by
  have f := info h
  have d := f.d (by rw [z]; decide)
  rw [TL_eq h, z] at e
  have := bare_hit (L := bs [119]) (d := 4) (v := (0 * 256 + hi) * 256 + lo) (p := by8 (txA i)) (g := hx hi ++ hx lo) (q := by8 (txC i)) e.symm (by8_36 f.a d.1) rfl (by decide) (by decide) (by rw [show hx hi ++ hx lo = hx hi ++ (hx lo ++ []) by simp, hexF_hx h2, hexF_hx h1]; rfl) (by
    have a := up_hx h2
    have b := up_hx h1
    unfold Go.Lib.toUpperA at a b ⊢
    rw [List.map_append, a, b])
  refine ⟨by rw [this.1], ?_⟩
  rw [this.2, KL_eq h, z]; rfl
theorem hit2 {s : ByteArray} {v : Nat} {p q : List UInt8} (h1 : v < 256) (hp : (36 : UInt8) ∉ p) (e : s.data.toList = p ++ 36 :: (hx v ++ q)) : (bareR s 2 (bs [98])).2.2 = true ∧ (bareR s 2 (bs [98])).1.data.toList = p ++ 98 :: q := by
  have := bare_hit (L := bs [98]) (d := 2) (v := 0 * 256 + v) (p := p) (g := hx v) (q := q) e hp rfl (by decide) (by decide) (by rw [show hx v = hx v ++ [] by simp, hexF_hx h1]; rfl) (up_hx h1)
  exact ⟨by rw [this.1], this.2⟩
def resOf (s : ByteArray) (r : List Int × Int) : Prop := ref06_Assemble.F (s, ()) = some (r.1, r.2, ())
theorem tail_ref {s : ByteArray} (hs : s.size ≤ 140737488355328) (nk : findN 512 s.data.toList = none) (n4 : ∀ i, i < 512 → goodI i = true → txZ i = 2 → (bareR s 4 (bs [119])).2.2 = true → (bareR s 4 (bs [119])).1.data.toList ≠ KL i) :
    resOf s (asmT (bareR s 2 (bs [98])) (lkH (bareR s 2 (bs [98])).1) (lkV (bareR s 2 (bs [98])).1)) := by
  have nT : ∀ i lo hi, i < 512 → lo < 256 → hi < 256 → goodI i = true → TX i lo hi = s → txZ i = 1 ∧ (bareR s 2 (bs [98])).2.2 = true ∧ (bareR s 2 (bs [98])).1.data.toList = KL i := by
    intro i lo hi h h1 h2 g e
    have f := info h
    have el := TL_of e
    have hz := f.z
    have cs : txZ i = 0 ∨ txZ i = 1 ∨ txZ i = 2 := by omega
    rcases cs with z | z | z
    · exact absurd (by rw [KT0 h z (lo := lo) (hi := hi), el]) (find_none nk i h g)
    · have d := f.d (by rw [z]; decide)
      rw [TL_eq h, z] at el
      have := hit2 h1 (by8_36 f.a d.1) (s := s) (q := by8 (txC i)) el.symm
      exact ⟨z, this.1, by rw [this.2, KL_eq h, z]; rfl⟩
    · have := hit4 h h1 h2 z el
      exact absurd this.2 (n4 i h g z this.1)
  have nD : ∀ v, v < 256 → dbS v = s → (bareR s 2 (bs [98])).2.2 = true ∧ (bareR s 2 (bs [98])).1.data.toList = [68, 66, 32, 98] := by
    intro v hv e
    have el : s.data.toList = by8 [68, 66, 32] ++ 36 :: (hx v ++ []) := by rw [← e, db_list, List.append_nil]; rfl
    exact hit2 hv (by decide) el
  unfold resOf
  unfold asmT
  by_cases ok : (bareR s 2 (bs [98])).2.2 = true
  · rw [if_neg (by rw [ok]; decide)]
    obtain ⟨p, g, q, v, e, hp, hl, hv, hu⟩ := bare_inv (by decide) (by decide) ok
    have hb := bare_hit (L := bs [98]) e hp hl (by decide) (by decide) hv hu
    obtain ⟨v1, rfl⟩ := hexF2 hl hv hu
    have key : (bareR s 2 (bs [98])).1.data.toList = p ++ 98 :: q := hb.2
    have val : (bareR s 2 (bs [98])).2.1 = (v : Int) := by rw [hb.1]
    have vm : ((v : Int) % 256) = (v : Int) := by omega
    rw [val, vm, ByteArray.toList_eq]
    by_cases dbk : (bareR s 2 (bs [98])).1.data.toList = [68, 66, 32, 98]
    · rw [if_pos (beq_iff_eq.2 dbk)]
      rw [key] at dbk
      have sp := split1 (a := 98) (p := p) (q := q) (A := [68, 66, 32]) (C := []) (by decide) (by decide) dbk
      have es : s.data.toList = DBL v := by rw [e, sp.1, sp.2, List.append_nil]; rfl
      exact ref_db v1 (num_db hs v1 es) (ba_ext (by rw [db_list, es]))
    · rw [if_neg (fun z => dbk (beq_iff_eq.1 z))]
      cases fk : findN 512 (bareR s 2 (bs [98])).1.data.toList with
      | none =>
        rw [if_neg (by unfold lkH; rw [fk]; decide)]
        exact ref_none hs (fun w hw z => dbk (nD w hw z).2) (fun i lo hi h h1 h2 gi z => find_none fk i h gi (nT i lo hi h h1 h2 gi z).2.2.symm)
      | some w =>
        rw [if_pos (by unfold lkH; rw [fk]; rfl)]
        have ew : lkV (bareR s 2 (bs [98])).1 = w := by unfold lkV; rw [fk]; rfl
        rw [ew]
        obtain ⟨w5, gw, kw⟩ := find_some fk
        rw [key] at kw
        have f := info w5
        have zz : txZ w = 1 := by
          rcases key_z w5 (c := 98) (by rw [kw]; simp) (by decide) with z | z
          · exact z.1
          · exact absurd z.2 (by decide)
        have d := f.d (by rw [zz]; decide)
        have w2 : w < 256 := by
          rcases Nat.lt_or_ge w 256 with q | q
          · exact q
          · have := f.l; rw [if_neg (by omega), zz] at this; omega
        have ll : lN w false = 2 := by have := f.l; rw [if_pos w2, zz] at this; exact this gw
        rw [if_pos (by omega)]
        rw [KL_eq w5, zz] at kw
        have sp := split1 (a := 98) (p := p) (q := q) (by8_no f.a (by decide)) (by8_no f.c (by decide)) kw.symm
        rw [sp.1, sp.2] at e
        have n36 : (36 : UInt8) ∉ hx v ++ by8 (txC w) := fun z => (List.mem_append.1 z).elim (fun z => (hx_mem v1 _ z).2.2.1 rfl) (by8_36 f.c d.2.1)
        have hn := number_some hs e n36
        rw [numT_b v1 f.c d.2.2] at hn
        have := ref_hit1 (hi := 0) v1 (by decide) hn w2 gw (TX_of (by rw [e, TL_eq w5, zz]; rfl))
        rw [this, ll]; rfl
  · have ok' : (bareR s 2 (bs [98])).2.2 = false := by cases e : (bareR s 2 (bs [98])).2.2 with | true => exact absurd e ok | false => rfl
    rw [if_pos (by rw [ok']; rfl)]
    exact ref_none hs (fun w hw z => ok (nD w hw z).1) (fun i lo hi h h1 h2 gi z => ok (nT i lo hi h h1 h2 gi z).2.1)
theorem asm_ref {s : ByteArray} (hs : s.size ≤ 140737488355328) : ref06_Assemble.F (s, ()) = some ((asmR s).1, (asmR s).2, ()) := by
  show resOf s (asmR s)
  unfold asmR asmG
  cases fk : findN 512 s.data.toList with
  | some v =>
    have el : lkV s = v := by unfold lkV; rw [fk]; rfl
    rw [if_pos (by unfold lkH; rw [fk]; rfl), el]
    obtain ⟨v5, gv, kv⟩ := find_some fk
    have f := info v5
    obtain ⟨lo, hi, h1, h2, hn⟩ := number_any hs
    by_cases c : 255 < v
    · rw [if_pos (by omega)]
      have z0 : txZ v = 0 := by have := f.l; rw [if_neg (by omega)] at this; exact this
      have e : TX (256 + (v - 256)) 0 0 = s := by rw [show 256 + (v - 256) = v by omega]; exact TX_of (by rw [← KT0 v5 z0, kv])
      have := ref_hit2 h1 h2 hn (show v - 256 < 256 by omega) e
      unfold resOf
      rw [this]
      show some ([203, ((v - 256 : Nat) : Int)], (0 : Int), ()) = some ([203, (v : Int) % 256], (0 : Int), ())
      rw [show ((v - 256 : Nat) : Int) = (v : Int) % 256 by omega]
    · rw [if_neg (by omega)]
      have t0 := tab_fin ⟨v, by omega⟩ false
      have ef : (lkF s).2.2.2.1 = (lN v false : Int) := by
        unfold lkF lN
        rw [el, Nat.mod_eq_of_lt (show v < 256 by omega), decide_eq_false c]
        have := t0.2.2.2.1
        dsimp only at this
        omega
      rw [ef]
      have ll : lN v false = 1 + txZ v := by have := f.l; rw [if_pos (by omega)] at this; exact this gv
      by_cases z0 : txZ v = 0
      · rw [if_pos (by rw [ll, z0]; rfl)]
        have := ref_hit1 h1 h2 hn (by omega) gv (TX_of (lo := lo) (hi := hi) (by rw [← KT0 v5 z0, kv]))
        unfold resOf
        rw [this, ll, z0]; rfl
      · rw [if_neg (by rw [ll]; intro z; have : ((1 + txZ v : Nat) : Int) = 1 := by simpa using z
                       omega)]
        have hz := f.z
        have bad : ∃ c : UInt8, c ∈ s.data.toList ∧ 97 ≤ c.toNat := by
          rw [← kv, KL_eq v5]
          have cs : txZ v = 1 ∨ txZ v = 2 := by omega
          rcases cs with z | z
          · rw [z]; exact ⟨98, by simp [zK], by decide⟩
          · rw [z]; exact ⟨119, by simp [zK], by decide⟩
        obtain ⟨c, c1, c2⟩ := bad
        refine ref_none hs (fun w hw z => ?_) (fun i lo hi h h1 h2 gi z => ?_)
        · rw [← z, db_list] at c1
          have : c.toNat < 97 := by
            rcases List.mem_append.1 c1 with q | q
            · exact (by8_lt (by decide) c q).2
            · rcases List.mem_cons.1 q with q | q
              · rw [q]; decide
              · exact (hx_mem hw c q).2.1
          omega
        · rw [← TL_of z] at c1
          have := lt97_T h h1 h2 c c1
          omega
  | none =>
    rw [if_neg (by unfold lkH; rw [fk]; decide)]
    by_cases ok : (bareR s 4 (bs [119])).2.2 = true
    · rw [if_pos ok]
      obtain ⟨p, g, q, v, e, hp, hl, hv, hu⟩ := bare_inv (by decide) (by decide) ok
      have hb := bare_hit (L := bs [119]) e hp hl (by decide) (by decide) hv hu
      obtain ⟨v1, rfl⟩ := hexF4 hl hv hu
      have key : (bareR s 4 (bs [119])).1.data.toList = p ++ 119 :: q := hb.2
      have val : (bareR s 4 (bs [119])).2.1 = (v : Int) := by rw [hb.1]
      cases f4 : findN 512 (bareR s 4 (bs [119])).1.data.toList with
      | none =>
        rw [if_neg (by unfold lkH; rw [f4]; decide)]
        exact tail_ref hs fk (fun i h gi z _ z2 => find_none f4 i h gi z2.symm)
      | some w =>
        rw [if_pos (by unfold lkH; rw [f4]; rfl)]
        have ew : lkV (bareR s 4 (bs [119])).1 = w := by unfold lkV; rw [f4]; rfl
        rw [ew, val]
        obtain ⟨w5, gw, kw⟩ := find_some f4
        rw [key] at kw
        have f := info w5
        have zz : txZ w = 2 := by
          rcases key_z w5 (c := 119) (by rw [kw]; simp) (by decide) with z | z
          · exact absurd z.2 (by decide)
          · exact z.1
        have d := f.d (by rw [zz]; decide)
        have w2 : w < 256 := by
          rcases Nat.lt_or_ge w 256 with q | q
          · exact q
          · have := f.l; rw [if_neg (by omega), zz] at this; omega
        have ll : lN w false = 3 := by have := f.l; rw [if_pos w2, zz] at this; exact this gw
        rw [if_pos (by omega)]
        rw [KL_eq w5, zz] at kw
        have sp := split1 (a := 119) (p := p) (q := q) (by8_no f.a (by decide)) (by8_no f.c (by decide)) kw.symm
        rw [sp.1, sp.2, List.append_assoc] at e
        have b1 : v / 256 < 256 := by omega
        have b2 : v % 256 < 256 := by omega
        have n36 : (36 : UInt8) ∉ hx (v / 256) ++ (hx (v % 256) ++ by8 (txC w)) := fun z => (List.mem_append.1 z).elim (fun z => (hx_mem b1 _ z).2.2.1 rfl) (fun z => (List.mem_append.1 z).elim (fun z => (hx_mem b2 _ z).2.2.1 rfl) (by8_36 f.c d.2.1))
        have hn := number_some hs e n36
        rw [numT_w b1 b2] at hn
        have := ref_hit1 b2 b1 hn w2 gw (TX_of (by rw [e, TL_eq w5, zz]; show _ ++ ((36 :: (hx (v / 256) ++ hx (v % 256))) ++ _) = _; simp))
        unfold resOf
        rw [this, ll]
        show some ([(w : Int), ((v % 256 : Nat) : Int), ((v / 256 : Nat) : Int)], (0 : Int), ()) = some ([(w : Int), (v : Int) % 256, (v : Int) / 256 % 256], (0 : Int), ())
        rw [show ((v / 256 : Nat) : Int) = (v : Int) / 256 % 256 by omega]
        rfl
    · rw [if_neg ok]
      exact tail_ref hs fk (fun i h gi z o _ => ok o)
end Go.Proofs.YtkdeheoonannoaaDoor.E
