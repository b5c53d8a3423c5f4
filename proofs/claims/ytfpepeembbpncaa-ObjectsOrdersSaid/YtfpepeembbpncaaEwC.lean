/- Shapes: calls and loops that are known by what they come to. Conditions: none. -/
import Derived.Test.YtfpepeembbpncaaEwB
namespace Go.Ew
set_option linter.unusedVariables false
set_option linter.unusedSimpArgs false
set_option linter.constructorNameAsVariable false

section
open Go.RowKit
/-! ### Shapes: which letters a value, a block, a frame hangs on -/
inductive Shp where
 | k (c : Kc)
 | im (t : Tag)
 | agg (t : Tag)
 | ag2 (t e : Tag)
 | arr (t : Tag) (n : Nat)
 | ptr (i off : Nat)
 | clo (g : FuncId) (caps : List (Nat × Nat))
 | sl (i base es : Nat)
 | sr (i base es : Nat)
 | sk (i base es len cap : Nat)
 | ip (t : Tag)
 | any
@[reducible] def Shp.T : Shp → Type
 | .k c => c.T
 | .im t => List t.T
 | .agg t => t.T
 | .ag2 t e => t.T × List e.T
 | .arr t _ => List t.T
 | .ptr _ _ => Unit
 | .clo _ _ => Unit
 | .sl _ _ _ => Nat × Nat
 | .sr _ _ _ => Nat
 | .sk _ _ _ _ _ => Unit
 | .ip t => t.T
 | .any => Unit
@[reducible] def SS : List Shp → Type
 | [] => Unit
 | a :: r => a.T × SS r
def encSc : (s : Shp) → s.T → Sc
 | .k c, x => encK c x
 | .im t, l => .im t l
 | .ptr i off, _ => .p i off
 | .clo g caps, _ => .f g caps
 | .sl i base es, x => .r i base es 0 x.1 (some x.2)
 | .sr i base es, x => .r i base es 0 x none
 | .sk i base es len cap, _ => .r i base es 0 len (some cap)
 | .ip t, x => .ip t x 0
 | .agg _, _ => .v .nilFunc
 | .ag2 _ _, _ => .v .nilFunc
 | .arr _ _, _ => .v .nilFunc
 | .any, _ => .v .nilFunc
def encS : (s : Shp) → s.T → AV
 | .agg t, x => .one (.agg (t.enc x))
 | .ag2 t e, x => .one (.agg (t.enc x.1 ++ [.im e x.2]))
 | .arr t n, l => .one (.arr t n l)
 | .any, _ => .top
 | .k c, x => .one (.c (encK c x))
 | .im t, l => .one (.c (.im t l))
 | .ptr i off, _ => .one (.c (.p i off))
 | .clo g caps, _ => .one (.c (.f g caps))
 | .sl i base es, x => .one (.c (.r i base es 0 x.1 (some x.2)))
 | .sr i base es, x => .one (.c (.r i base es 0 x none))
 | .sk i base es len cap, _ => .one (.c (.r i base es 0 len (some cap)))
 | .ip t, x => .one (.c (.ip t x 0))
def encSS : (l : List Shp) → SS l → List AV
 | [], _ => []
 | a :: r, x => encS a x.1 :: encSS r x.2
noncomputable def rowsIf (h : List Blk) (ok : Nat → Bool) (t : Tag) (s : Sc) : Option (List t.T) :=
 match s with
 | .im g l => castL g t l
 | .v (.slice none 0 0) => some []
 | .r i base es st len cap => if ok i = true then match rowsOf h t (.one (.c (.r i base es st len cap))) with
   | some (_, l) => some l
   | none => none
  else none
 | _ => none
noncomputable def elemIf (h : List Blk) (ok : Nat → Bool) (t : Tag) (dec : List Sc → Option t.T) (s : Sc) : Option t.T :=
 match s with
 | .p i 0 => if ok i = true then match nth h i with
   | some b => if b.live = true then match cellsOf b.segs with
     | some cs => dec cs
     | none => none
    else none
   | none => none
  else none
 | .ip g x 0 => if e : g = t then some (e ▸ x) else none
 | _ => none
noncomputable def decVid (h : List Blk) (ok : Nat → Bool) : List Sc → Option VidT
 | [.v (.int .u8 a), .v (.int .u8 b), .v (.int .u8 c), .v (.int .u8 d), .v (.int .u8 e), .v (.int .u8 f), .v (.int .u8 g), .v (.int .u8 i), x, y] => match rowsIf h ok ⟨.i .u8, []⟩ x with
  | some u => match rowsIf h ok ⟨.i .u8, []⟩ y with
   | some v => some (a, b, c, d, e, f, g, i, u, v)
   | none => none
  | none => none
 | _ => none
noncomputable def decOh (h : List Blk) (ok : Nat → Bool) (s : Sc) : Option (Option VidT) :=
 match s with
 | .o x => some x
 | .v (.pointer none) => some none
 | s => match elemIf h ok VT (decVid h ok) s with
  | some y => some (some y)
  | none => none
noncomputable def decKh (h : List Blk) (ok : Nat → Bool) : (c : Kc) → Sc → Option c.T
 | .i k, s => decK (.i k) s
 | .b, s => decK .b s
 | .s, s => decK .s s
 | .l k, s => rowsIf h ok ⟨.i k, []⟩ s
 | .lb, s => rowsIf h ok ⟨.b, []⟩ s
 | .o, s => decOh h ok s
 | .lo, s => rowsIf h ok VT s
noncomputable def decCh (h : List Blk) (ok : Nat → Bool) : (a : Kc) → (r : List Kc) → List Sc → Option (TC a r)
 | a, [], [s] => decKh h ok a s
 | a, b :: r, s :: l => match decKh h ok a s with
  | some x => match decCh h ok b r l with
   | some y => some (x, y)
   | none => none
  | none => none
 | _, _, _ => none
noncomputable def decSc (h : List Blk) (ok : Nat → Bool) : (s : Shp) → Sc → Option s.T
 | .k c, x => decKh h ok c x
 | .im t, x => rowsIf h ok t x
 | .ptr i off, .p i' off' => if i = i' ∧ off = off' then some () else none
 | .clo g caps, .f g' caps' => if g = g' ∧ caps = caps' then some () else none
 | .ip t, x => elemIf h ok t (decCh h ok t.hd t.tl) x
 | .sl i base es, .r i' base' es' 0 len (some cap) => if i = i' ∧ base = base' ∧ es = es' then some (len, cap) else none
 | .sr i base es, .r i' base' es' 0 len _ => if i = i' ∧ base = base' ∧ es = es' then some len else none
 | .sk i base es len cap, .r i' base' es' 0 len' (some cap') => if (Nat.beq i i' && Nat.beq base base' && Nat.beq es es' && Nat.beq len len' && Nat.beq cap cap') = true then some () else none
 | _, _ => none
noncomputable def decS (h : List Blk) (ok : Nat → Bool) : (s : Shp) → AV → Option s.T
 | .any, _ => some ()
 | .agg t, .one (.agg l) => decCh h ok t.hd t.tl l
 | .ag2 t e, .one (.agg l) => match l.drop t.sz with
  | [s] => match decCh h ok t.hd t.tl (l.take t.sz), rowsIf h ok e s with
   | some x, some y => some (x, y)
   | _, _ => none
  | _ => none
 | .arr t n, .one (.arr t' n' l) => if n = n' then castL t' t l else none
 | .k c, .one (.c x) => decSc h ok (.k c) x
 | .im t, .one (.c x) => decSc h ok (.im t) x
 | .ptr i off, .one (.c x) => decSc h ok (.ptr i off) x
 | .clo g caps, .one (.c x) => decSc h ok (.clo g caps) x
 | .sl i base es, .one (.c x) => decSc h ok (.sl i base es) x
 | .sr i base es, .one (.c x) => decSc h ok (.sr i base es) x
 | .sk i base es len cap, .one (.c x) => decSc h ok (.sk i base es len cap) x
 | .ip t, .one (.c x) => decSc h ok (.ip t) x
 | _, _ => none
noncomputable def decSS (h : List Blk) (ok : Nat → Bool) : (l : List Shp) → List AV → Option (SS l)
 | [], [] => some ()
 | a :: r, v :: l => match decS h ok a v with
  | some x => match decSS h ok r l with
   | some y => some (x, y)
   | none => none
  | none => none
 | _, _ => none
def Shp.still : Shp → Bool
 | .k _ => true
 | .im _ => true
 | .agg _ => true
 | .ag2 _ _ => true
 | .arr _ _ => true
 | .ip _ => true
 | .any => true
 | _ => false
def Kc.plain : Kc → Bool
 | .l _ => false
 | .lb => false
 | .o => false
 | .lo => false
 | _ => true
def Tag.plain (t : Tag) : Bool := t.hd.plain && t.tl.all Kc.plain
def Shp.plain : Shp → Bool
 | .k c => c.plain
 | .agg t => t.plain
 | .arr t _ => t.plain
 | .any => true
 | _ => false

section
variable {S S' : Stay} {w : World} {ρ : Rho} {h : List Blk} {ok : Nat → Bool}
def Held (S' : Stay) (ρ : Rho) (h : List Blk) (w : World) (ok : Nat → Bool) : Prop := ∀ (i n : Nat) (b : Blk) (t : Rg), ok i = true → h[i]? = some b → b.live = true → ρ[i]? = some (some n, t) → S' n = w.heap[n]?
theorem rowsIf_R (hr : Rel S ρ h w) (hS : S.le S') (hh : Held S' ρ h w ok) {t : Tag} {s : Sc} {l : List t.T} (he : rowsIf h ok t s = some l) {V : Value} (hV : s.R S ρ V) : ImR S' t l V := by
 unfold rowsIf at he
 split at he
 ·obtain ⟨e0, e1⟩ := castL_ok he
  subst e0; subst e1
  exact ImR.le hS hV
 ·simp at he; subst he
  obtain ⟨rfl, _⟩ := hV
  exact ⟨none, 0, rfl, Nat.le_refl _, fun j x hj => by simp at hj⟩
 ·rename_i i base es st len cap
  split at he
  ·rename_i hok
   split at he
   ·rename_i n l' hrows
    simp only [Option.some.injEq] at he; subst he
    obtain ⟨hl, _, _⟩ := rowsOf_ok (P := default) hrows hr (X := V) hV
    unfold rowsOf at hrows
    simp only [nth_eq] at hrows
    split at hrows
    ·rename_i b hb
     split at hrows
     ·rename_i hlive
      split at hrows
      ·rename_i g' n' xs hrow
       split at hrows
       ·rename_i hes
        split at hrows
        ·rename_i l2 hl2
         obtain ⟨e0, e1⟩ := castL_ok hl2
         subst e0; subst l2
         simp only [Option.some.injEq, Prod.mk.injEq] at hrows
         obtain ⟨rfl, rfl⟩ := hrows
         obtain ⟨o, tn, hn, hle, hcap, hV⟩ := hV
         rcases hV with ⟨nb, c, rfl, rfl, hc1, hc2, hc3⟩ | ⟨A, rfl, h0, hc3⟩
         ·obtain ⟨L, rest, hL, ho, htot, hokk, hext⟩ := hr.blkAt hb hlive hn
          obtain ⟨a, b1, e, hl1⟩ := rowAt_ok hokk hrow
          have hxl : xs.length = tn.ext base := hext _ _ hrow
          refine ⟨_, c, by rw [hl], by rw [hl]; exact hc1, fun j x hj => ?_⟩
          have hjl := lt_of_get hj
          rw [hl] at hjl
          rw [List.getElem?_take_of_lt hjl, List.getElem?_drop] at hj
          refine ⟨nb, _, rfl, ?_⟩
          simp only [Blk.cells, e, den_append, den_cons, Seg.den] at hL
          obtain ⟨A, B', rfl, hA, hB', hAl⟩ := hL.split
          obtain ⟨M, B, rfl, hM, hB, hMl⟩ := hB'.split
          obtain ⟨e2, hl2'⟩ := flat_cut hj
          rw [e2, List.append_assoc] at hM
          obtain ⟨M1, M', rfl, hM1, hM', hM1l⟩ := hM.split
          obtain ⟨X, M3, rfl, hX, hM3, hXl⟩ := hM'.split
          have hS1 : S' nb = some (.cells (A ++ (M1 ++ (X ++ M3) ++ B) ++ rest).toArray b.elem (0, 0)) := by
           rw [hh i nb b tn hok hb hlive hn, ho]
          refine ⟨X, (enc_R.1 hX).le hS, fun q U hq => ?_⟩
          unfold scell
          rw [hS1]
          simp only [List.getElem?_toArray]
          have hq2 := lt_of_get hq
          have e5 : base + st * es + j * g'.sz + q = A.length + (M1.length + q) := by rw [hAl, hM1l, hl1, hl2', hes, Nat.add_mul]; omega
          rw [e5, List.append_assoc, List.getElem?_append_right (by omega), Nat.add_sub_cancel_left, List.append_assoc, List.append_assoc, List.getElem?_append_right (by omega), Nat.add_sub_cancel_left, List.append_assoc, List.getElem?_append_left (by omega)]
          exact hq
         ·refine ⟨A, 0, by rw [hl, h0], by rw [hl, h0]; exact Nat.le_refl _, fun j x hj => ?_⟩
          have := lt_of_get hj
          rw [hl] at this; omega
        ·simp at hrows
       ·simp at hrows
      ·simp at hrows
     ·simp at hrows
    ·simp at hrows
   ·simp at he
  ·simp at he
 ·simp at he
theorem elemIf_R (hr : Rel S ρ h w) (hS : S.le S') (hh : Held S' ρ h w ok) {t : Tag} {dec : List Sc → Option t.T} (hd : ∀ {cs : List Sc} {x : t.T} {L : List Value}, dec cs = some x → LR (Sc.R S ρ) cs L → RowR S' t.hd t.tl x L) {c : Sc} {x : t.T} (he : elemIf h ok t dec c = some x) {V : Value} (hV : c.R S ρ V) : (Sc.ip t x 0).R S' ρ V := by
 unfold elemIf at he
 simp only [nth_eq] at he
 split at he
 ·rename_i i
  split at he
  ·rename_i hok
   split at he
   ·rename_i b hb
    split at he
    ·rename_i hl
     split at he
     ·rename_i cs hcs
      obtain ⟨n, tn, hn, rfl⟩ := hV
      obtain ⟨L, rest, hL, ho, htot, hokk, hext⟩ := hr.blkAt hb hl hn
      simp only [Blk.cells, cellsOf_ok hcs, den_cells] at hL
      refine ⟨n, 0, rfl, L, hd he hL, fun j U hj => ?_⟩
      unfold scell
      rw [hh i n b tn hok hb hl hn, ho]
      simp only [List.getElem?_toArray, Nat.zero_add]
      exact get_prefix hj
     ·simp at he
    ·simp at he
   ·simp at he
  ·simp at he
 ·split at he
  ·rename_i e; subst e
   simp at he; subst he
   exact Sc.R.of hS (fun _ _ e => e) hV
  ·simp at he
 ·simp at he
theorem decVid_R (hr : Rel S ρ h w) (hS : S.le S') (hh : Held S' ρ h w ok) {cs : List Sc} {x : VidT} {L : List Value} (he : decVid h ok cs = some x) (q : LR (Sc.R S ρ) cs L) : RowR S' VT.hd VT.tl x L := by
 unfold decVid at he
 split at he
 ·rename_i x1 y1
  split at he
  ·rename_i u hu
   split at he
   ·rename_i v hv
    simp only [Option.some.injEq] at he; subst he
    match L, q with
    | [V1, V2, V3, V4, V5, V6, V7, V8, V9, V10], q =>
     obtain ⟨h1, h2, h3, h4, h5, h6, h7, h8, h9, h10, _⟩ := q
     exact ⟨h1.1, h2.1, h3.1, h4.1, h5.1, h6.1, h7.1, h8.1, ints_im.2 (rowsIf_R hr hS hh hu h9), ints_im.2 (rowsIf_R hr hS hh hv h10)⟩
   ·simp at he
  ·simp at he
 ·simp at he
theorem decOh_R (hr : Rel S ρ h w) (hS : S.le S') (hh : Held S' ρ h w ok) {s : Sc} {x : Option VidT} (he : decOh h ok s = some x) {V : Value} (hV : s.R S ρ V) : VidO S' x V := by
 unfold decOh at he
 split at he
 ·simp only [Option.some.injEq] at he; subst he
  exact VidO.le hS hV
 ·simp only [Option.some.injEq] at he; subst he
  exact hV.1
 ·split at he
  ·rename_i y hy
   simp only [Option.some.injEq] at he; subst he
   obtain ⟨b, o, e, hat⟩ := elemIf_R hr hS hh (decVid_R hr hS hh) hy hV
   exact ⟨b, o, by rw [e]; rfl, vid_at.2 hat⟩
  ·simp at he
theorem decKh_R (hr : Rel S ρ h w) (hS : S.le S') (hh : Held S' ρ h w ok) {c : Kc} {s : Sc} {x : c.T} (he : decKh h ok c s = some x) {V : Value} (hV : s.R S ρ V) : KR S' c x V := by
 cases c with
 | i k => exact encK_R.1 ((decK_R (S := S) (ρ := ρ) he hV).of hS fun _ _ e => e)
 | b => exact encK_R.1 ((decK_R (S := S) (ρ := ρ) he hV).of hS fun _ _ e => e)
 | s => exact encK_R.1 ((decK_R (S := S) (ρ := ρ) he hV).of hS fun _ _ e => e)
 | l k => exact ints_im.2 (rowsIf_R hr hS hh he hV)
 | lb => exact bools_im.2 (rowsIf_R hr hS hh he hV)
 | o => exact decOh_R hr hS hh he hV
 | lo => exact vids_im.2 (rowsIf_R hr hS hh he hV)
theorem decCh_R (hr : Rel S ρ h w) (hS : S.le S') (hh : Held S' ρ h w ok) : ∀ {a : Kc} {r : List Kc} {l : List Sc} {x : TC a r} {L : List Value}, decCh h ok a r l = some x → LR (Sc.R S ρ) l L → RowR S' a r x L
 | a, [], [s], x, [V], he, q => decKh_R hr hS hh he q.1
 | a, b :: r, s :: l, x, V :: L, he, q => by
  simp only [decCh] at he
  split at he
  ·rename_i y hy
   split at he
   ·rename_i z hz
    simp at he; subst he
    exact ⟨decKh_R hr hS hh hy q.1, decCh_R hr hS hh hz q.2⟩
   ·simp at he
  ·simp at he
 | _, [], [], _, _, he, _ => by simp [decCh] at he
 | _, [], _ :: _ :: _, _, _, he, _ => by simp [decCh] at he
 | _, [], [_], _, [], _, q => q.elim
 | _, [], [_], _, _ :: _ :: _, _, q => q.2.elim
 | _, _ :: _, [], _, _, he, _ => by simp [decCh] at he
 | _, _ :: _, _ :: _, _, [], _, q => q.elim
theorem decSc_R (hr : Rel S ρ h w) (hS : S.le S') (hh : Held S' ρ h w ok) {s : Shp} {c : Sc} {x : s.T} (he : decSc h ok s c = some x) {V : Value} (hV : c.R S ρ V) : (encSc s x).R S' ρ V := by
 unfold decSc at he
 split at he
 ·exact encK_R.2 (decKh_R hr hS hh he hV)
 ·exact rowsIf_R hr hS hh he hV
 ·split at he
  ·rename_i e; obtain ⟨rfl, rfl⟩ := e; exact hV
  ·simp at he
 ·split at he
  ·rename_i e; obtain ⟨rfl, rfl⟩ := e; exact hV
  ·simp at he
 ·exact elemIf_R hr hS hh (decCh_R hr hS hh) he hV
 ·split at he
  ·rename_i e; obtain ⟨rfl, rfl, rfl⟩ := e
   simp at he; subst he; exact hV
  ·simp at he
 ·split at he
  ·rename_i e; obtain ⟨rfl, rfl, rfl⟩ := e
   simp at he; subst he
   obtain ⟨o, t, h1, h2, h3, h4⟩ := hV
   refine ⟨o, t, h1, h2, fun d hd => by simp at hd, ?_⟩
   rcases h4 with ⟨b, c, q1, q2, q3, q4, _⟩ | ⟨A, q1, q2, _⟩
   ·exact .inl ⟨b, c, q1, q2, q3, q4, fun d hd => by simp at hd⟩
   ·exact .inr ⟨A, q1, q2, fun d hd => by simp at hd⟩
  ·simp at he
 ·split at he
  ·rename_i e
   simp only [Bool.and_eq_true, Nat.beq_eq] at e
   obtain ⟨⟨⟨⟨rfl, rfl⟩, rfl⟩, rfl⟩, rfl⟩ := e
   exact hV
  ·simp at he
 ·simp at he
theorem decS_R (hr : Rel S ρ h w) (hS : S.le S') (hh : Held S' ρ h w ok) {s : Shp} {v : AV} {x : s.T} (he : decS h ok s v = some x) {V : Value} (hV : v.R S ρ V) : (encS s x).R S' ρ V := by
 unfold decS at he
 split at he
 ·trivial
 ·obtain ⟨L, hL, rfl⟩ := hV
  exact ⟨L, enc_R.2 (decCh_R hr hS hh he hL), rfl⟩
 ·rename_i t e l
  obtain ⟨L, hL, rfl⟩ := hV
  split at he
  ·rename_i s hdrop
   split at he
   ·rename_i x1 y1 hx1 hy1
    simp only [Option.some.injEq] at he; subst he
    have h1 := hL.take t.sz
    have h2 := hL.drop t.sz
    rw [hdrop] at h2
    match hLd : L.drop t.sz, h2 with
    | [V1], h2 =>
     refine ⟨L, ?_, rfl⟩
     have e1 : L = L.take t.sz ++ [V1] := by rw [← hLd, List.take_append_drop]
     rw [e1]
     exact LR.append (enc_R.2 (decCh_R hr hS hh hx1 h1)) ⟨rowsIf_R hr hS hh hy1 h2.1, trivial⟩
    | [], h2 => exact h2.elim
    | _ :: _ :: _, h2 => exact h2.2.elim
   ·simp at he
  ·simp at he
 ·split at he
  ·rename_i e; subst e
   obtain ⟨e0, e1⟩ := castL_ok he
   subst e0; subst e1
   exact AV.R.of hS (fun _ _ e => e) hV
  ·simp at he
 ·exact decSc_R (s := .k _) hr hS hh he hV
 ·exact decSc_R (s := .im _) hr hS hh he hV
 ·exact decSc_R (s := .ptr _ _) hr hS hh he hV
 ·exact decSc_R (s := .clo _ _) hr hS hh he hV
 ·exact decSc_R (s := .sl _ _ _) hr hS hh he hV
 ·exact decSc_R (s := .sr _ _ _) hr hS hh he hV
 ·exact decSc_R (s := .sk _ _ _ _ _) hr hS hh he hV
 ·exact decSc_R (s := .ip _) hr hS hh he hV
 ·simp at he
theorem decSS_R (hr : Rel S ρ h w) (hS : S.le S') (hh : Held S' ρ h w ok) : ∀ {l : List Shp} {m : List AV} {x : SS l} {L : List Value}, decSS h ok l m = some x → LR (AV.R S ρ) m L → LR (AV.R S' ρ) (encSS l x) L
 | [], [], x, [], _, _ => trivial
 | a :: r, v :: m, x, V :: L, he, q => by
  simp only [decSS] at he
  split at he
  ·rename_i y hy
   split at he
   ·rename_i z hz
    simp at he; subst he
    exact ⟨decS_R hr hS hh hy q.1, decSS_R hr hS hh hz q.2⟩
   ·simp at he
  ·simp at he
 | [], _ :: _, _, _, he, _ => by simp [decSS] at he
 | _ :: _, [], _, _, he, _ => by simp [decSS] at he
 | [], [], _, _ :: _, _, q => q.elim
 | _ :: _, _ :: _, _, [], _, q => q.elim
theorem encS_still {s : Shp} (hs : s.still = true) {x : s.T} {ρ' : Rho} {V : Value} (r : (encS s x).R S ρ V) : (encS s x).R S ρ' V := by
 cases s <;> simp [Shp.still] at hs
 ·exact encK_R.2 (encK_R.1 r)
 ·exact r
 ·obtain ⟨L, hL, e⟩ := r; exact ⟨L, enc_R.2 (enc_R.1 hL), e⟩
 ·obtain ⟨L, hL, e⟩ := r
  refine ⟨L, hL.monoIn fun c V hc q => q.still ?_, e⟩
  rcases List.mem_append.1 hc with h | h
  ·exact encC_still h
  ·simp only [List.mem_singleton] at h
   subst h; rfl
 ·obtain ⟨hn, L, hL, e⟩ := r; exact ⟨hn, L, hL.monoIn fun c V hc q => q.still (flat_still hc), e⟩
 ·exact r
 ·trivial
theorem encSS_still : ∀ {l : List Shp} (hl : l.all Shp.still = true) {x : SS l} {ρ' : Rho} {L : List Value}, LR (AV.R S ρ) (encSS l x) L → LR (AV.R S ρ') (encSS l x) L
 | [], _, _, _, [], _ => trivial
 | a :: r, hl, x, ρ', V :: L, q => by
  simp only [List.all_cons, Bool.and_eq_true] at hl
  exact ⟨encS_still hl.1 q.1, encSS_still hl.2 q.2⟩
 | [], _, _, _, _ :: _, q => q.elim
 | _ :: _, _, _, _, [], q => q.elim
theorem KR_plain {c : Kc} (hc : c.plain = true) {x : c.T} {V : Value} (r : KR S c x V) : KR S' c x V := by
 cases c <;> simp [Kc.plain] at hc <;> exact r
theorem RowR_plain : ∀ {a : Kc} {r : List Kc} {x : TC a r} {L : List Value}, a.plain = true → r.all Kc.plain = true → RowR S a r x L → RowR S' a r x L
 | a, [], x, [V], h1, _, q => KR_plain h1 q
 | a, b :: r, x, V :: L, h1, h2, q => by
  simp only [List.all_cons, Bool.and_eq_true] at h2
  exact ⟨KR_plain h1 q.1, RowR_plain h2.1 h2.2 q.2⟩
 | _, [], _, [], _, _, q => q.elim
 | _, [], _, _ :: _ :: _, _, _, q => q.elim
 | _, _ :: _, _, [], _, _, q => q.elim
theorem flat_plain {t : Tag} (ht : t.plain = true) : ∀ {l : List t.T} {L : List Value}, LR (Sc.R S ρ) (flat t l) L → LR (Sc.R S' ρ) (flat t l) L
 | [], [], _ => trivial
 | [], _ :: _, q => q.elim
 | x :: l, L, q => by
  have e : flat t (x :: l) = t.enc x ++ flat t l := by simp [flat]
  rw [e] at q ⊢
  obtain ⟨A, B, rfl, hA, hB, _⟩ := q.split
  simp only [Tag.plain, Bool.and_eq_true] at ht
  exact (enc_R.2 (RowR_plain ht.1 ht.2 (enc_R.1 hA))).append (flat_plain (by simp [Tag.plain, ht.1, ht.2]) hB)
theorem encS_plain {s : Shp} (hs : s.plain = true) {x : s.T} {V : Value} (r : (encS s x).R S ρ V) : (encS s x).R S' ρ V := by
 cases s <;> simp [Shp.plain] at hs
 ·exact encK_R.2 (KR_plain hs (encK_R.1 r))
 ·obtain ⟨L, hL, e⟩ := r
  have hs' := hs
  simp only [Tag.plain, Bool.and_eq_true] at hs'
  exact ⟨L, enc_R.2 (RowR_plain hs'.1 hs'.2 (enc_R.1 hL)), e⟩
 ·obtain ⟨hn, L, hL, e⟩ := r; exact ⟨hn, L, flat_plain hs hL, e⟩
 ·trivial
theorem plain_still {s : Shp} (h : s.plain = true) : s.still = true := by cases s <;> simp [Shp.plain] at h <;> rfl
end

/-! ### What a call tells -/
def resOf : (l : List Shp) → SS l → AV
 | [s], x => encS s x.1
 | l, x => match l, x with
  | l, x => .tup ((encSS l x).filterMap fun
   | .one c => some c
   | _ => none)
def cpsA (l : List Cp) : List AV := l.map .one
noncomputable def decRes (h : List Blk) (ok : Nat → Bool) : (l : List Shp) → AV → Option (SS l)
 | [s], .one c => match decS h ok s (.one c) with
  | some x => some (x, ())
  | none => none
 | [], .tup [] => some ()
 | a :: b :: r, .tup l => decSS h ok (a :: b :: r) (cpsA l)
 | _, _ => none
def Shp.one : Shp → Bool
 | .any => false
 | _ => true
theorem encS_one {s : Shp} (h : s.one = true) (x : s.T) : ∃ c, encS s x = .one c := by cases s <;> simp [Shp.one] at h <;> exact ⟨_, rfl⟩
section
variable {S S' : Stay} {w : World} {ρ : Rho} {h : List Blk} {ok : Nat → Bool}
theorem tup_R : ∀ {l : List Shp} (hl : l.all Shp.one = true) {x : SS l} {L : List Value}, LR (AV.R S ρ) (encSS l x) L → LR (Cp.R S ρ) ((encSS l x).filterMap fun
   | .one c => some c
   | _ => none) L
 | [], _, _, [], _ => trivial
 | a :: r, hl, x, V :: L, q => by
  simp only [List.all_cons, Bool.and_eq_true] at hl
  obtain ⟨c, e⟩ := encS_one hl.1 x.1
  have h2 := tup_R hl.2 q.2
  have h1 := q.1
  simp only [encSS, List.filterMap_cons, e]
  rw [e] at h1
  exact ⟨h1, h2⟩
 | [], _, _, _ :: _, q => q.elim
 | _ :: _, _, _, [], q => q.elim
theorem cpsA_R : ∀ {l : List Cp} {L : List Value}, LR (Cp.R S ρ) l L → LR (AV.R S ρ) (cpsA l) L
 | [], [], _ => trivial
 | _ :: _, _ :: _, q => ⟨q.1, cpsA_R q.2⟩
 | [], _ :: _, q => q.elim
 | _ :: _, [], q => q.elim
theorem decRes_R (hr : Rel S ρ h w) (hS : S.le S') (hh : Held S' ρ h w ok) {l : List Shp} (hl : l.all Shp.one = true) {v : AV} {x : SS l} (he : decRes h ok l v = some x) {V : Value} (hV : v.R S ρ V) : (resOf l x).R S' ρ V := by
 unfold decRes at he
 split at he
 ·split at he
  ·rename_i y hy
   simp at he; subst he
   exact decS_R hr hS hh hy hV
  ·simp at he
 ·obtain ⟨L, hL, rfl⟩ := hV
  cases L with
  | nil => exact ⟨[], trivial, rfl⟩
  | cons _ _ => exact hL.elim
 ·obtain ⟨L, hL, rfl⟩ := hV
  exact ⟨L, tup_R hl (decSS_R hr hS hh he (cpsA_R hL)), rfl⟩
 ·simp at he
theorem resOf_still {l : List Shp} (hs : l.all Shp.still = true) (hl : l.all Shp.one = true) {x : SS l} {ρ' : Rho} {V : Value} (r : (resOf l x).R S ρ V) : (resOf l x).R S ρ' V := by
 match l, x, hs, hl, r with
 | [s], x, hs, hl, r => exact encS_still (by simpa using hs) r
 | [], x, hs, hl, r =>
  obtain ⟨L, hL, e⟩ := r
  refine ⟨L, ?_, e⟩
  cases L with
  | nil => trivial
  | cons _ _ => exact hL.elim
 | a :: b :: q, x, hs, hl, r =>
  obtain ⟨L, hL, e⟩ := r
  refine ⟨L, tup_R hl (encSS_still (ρ := ρ) hs ?_), e⟩
  have back : ∀ {l : List Shp} (hl : l.all Shp.one = true) {x : SS l} {L : List Value}, LR (Cp.R S ρ) ((encSS l x).filterMap fun
   | .one c => some c
   | _ => none) L → LR (AV.R S ρ) (encSS l x) L := by
   intro l
   induction l with
   | nil => intro hl x L q; cases L with
    | nil => trivial
    | cons _ _ => exact q.elim
   | cons s l ih =>
    intro hl x L q
    simp only [List.all_cons, Bool.and_eq_true] at hl
    obtain ⟨c, e⟩ := encS_one hl.1 x.1
    simp only [encSS, List.filterMap_cons, e] at q ⊢
    cases L with
    | nil => exact q.elim
    | cons V L => exact ⟨q.1, ih hl.2 q.2⟩
  exact back hl hL
theorem resOf_plain {l : List Shp} (hs : l.all Shp.plain = true) (hl : l.all Shp.one = true) {x : SS l} {V : Value} (r : (resOf l x).R S ρ V) : (resOf l x).R S' ρ V := by
 match l, x, hs, hl, r with
 | [s], x, hs, hl, r => exact encS_plain (by simpa using hs) r
 | [], x, hs, hl, r =>
  obtain ⟨L, hL, e⟩ := r
  refine ⟨L, ?_, e⟩
  cases L with
  | nil => trivial
  | cons _ _ => exact hL.elim
 | a :: b :: q, x, hs, hl, r =>
  obtain ⟨L, hL, e⟩ := r
  refine ⟨L, ?_, e⟩
  have go : ∀ {l : List Shp} (hs : l.all Shp.plain = true) (hl : l.all Shp.one = true) {x : SS l} {L : List Value}, LR (Cp.R S ρ) ((encSS l x).filterMap fun
   | .one c => some c
   | _ => none) L → LR (Cp.R S' ρ) ((encSS l x).filterMap fun
   | .one c => some c
   | _ => none) L := by
   intro l
   induction l with
   | nil => intro hs hl x L q; cases L with
    | nil => trivial
    | cons _ _ => exact q.elim
   | cons s l ih =>
    intro hs hl x L q
    simp only [List.all_cons, Bool.and_eq_true] at hl hs
    obtain ⟨c, e⟩ := encS_one hl.1 x.1
    simp only [encSS, List.filterMap_cons, e] at q ⊢
    cases L with
    | nil => exact q.elim
    | cons V L =>
     refine ⟨?_, ih hs.2 hl.2 q.2⟩
     have h1 : (encS s x.1).R S ρ V := by rw [e]; exact q.1
     have h2 := encS_plain (S' := S') hs.1 h1
     rw [e] at h2; exact h2
  exact go hs hl hL
end
end

section
open Go.RowKit
/-! ### The shape of a block -/
inductive SegSh where
 | c (s : Shp)
 | r (t : Tag) (n : Option Nat)
@[reducible] def SegSh.T : SegSh → Type
 | .c s => s.T
 | .r t _ => List t.T
@[reducible] def BS : List SegSh → Type
 | [] => Unit
 | a :: r => a.T × BS r
def encSeg : (s : SegSh) → s.T → Seg
 | .c s, x => .c (encSc s x)
 | .r t none, l => .r t (List.length l) l
 | .r t (some n), l => .r t n l
def encB : (l : List SegSh) → BS l → List Seg
 | [], _ => []
 | a :: r, x => encSeg a x.1 :: encB r x.2
noncomputable def decSeg (h : List Blk) (ok : Nat → Bool) : (s : SegSh) → Seg → Option s.T
 | .c s, .c x => decSc h ok s x
 | .r t none, .r g _ l => castL g t l
 | .r t (some n), .r g n' l => if n = n' then castL g t l else none
 | _, _ => none
noncomputable def decB (h : List Blk) (ok : Nat → Bool) : (l : List SegSh) → List Seg → Option (BS l)
 | [], [] => some ()
 | a :: r, s :: l => match decSeg h ok a s with
  | some x => match decB h ok r l with
   | some y => some (x, y)
   | none => none
  | none => none
 | _, _ => none
def SegSh.cell : SegSh → Bool
 | .c (.agg _) => false
 | .c (.ag2 _ _) => false
 | .c (.arr _ _) => false
 | .c .any => false
 | _ => true
def SegSh.still : SegSh → Bool
 | .c s => s.still
 | .r _ _ => true
def SegSh.plain : SegSh → Bool
 | .c s => s.plain
 | .r t _ => t.plain

section
variable {S S' : Stay} {w : World} {ρ : Rho} {h : List Blk} {ok : Nat → Bool}
theorem decSeg_R (hr : Rel S ρ h w) (hS : S.le S') (hh : Held S' ρ h w ok) {s : SegSh} {g : Seg} {x : s.T} (he : decSeg h ok s g = some x) (hg : segsOK [g]) : segsOK [encSeg s x] ∧ (∀ {L : List Value}, LR (Sc.R S ρ) g.den L → LR (Sc.R S' ρ) (encSeg s x).den L) ∧ ((∃ a b, g = .c a ∧ encSeg s x = .c b) ∨ ∃ t n m l, g = .r t n l ∧ encSeg s x = .r t m l ∧ n = m) := by
 unfold decSeg at he
 split at he
 ·refine ⟨segsOK_c.2 segsOK_nil, fun {L} q => ?_, .inl ⟨_, _, rfl, rfl⟩⟩
  match L, q with
  | [V], q => exact ⟨decSc_R hr hS hh he q.1, trivial⟩
  | [], q => exact q.elim
  | _ :: _ :: _, q => exact q.2.elim
 ·obtain ⟨e0, e1⟩ := castL_ok he
  subst e0; subst e1
  have hl := (segsOK_r.1 hg).1
  exact ⟨segsOK_r.2 ⟨rfl, segsOK_nil⟩, fun {L} q => q.mono fun _ _ => Sc.R.of hS fun _ _ e => e, .inr ⟨_, _, _, _, rfl, rfl, hl.symm⟩⟩
 ·split at he
  ·rename_i e
   subst e
   obtain ⟨e0, e1⟩ := castL_ok he
   subst e0; subst e1
   exact ⟨hg, fun {L} q => q.mono fun _ _ => Sc.R.of hS fun _ _ e => e, .inr ⟨_, _, _, _, rfl, rfl, rfl⟩⟩
  ·simp at he
 ·simp at he
theorem decB_R (hr : Rel S ρ h w) (hS : S.le S') (hh : Held S' ρ h w ok) : ∀ {l : List SegSh} {m : List Seg} {x : BS l}, decB h ok l m = some x → segsOK m →
  segsOK (encB l x) ∧ (∀ {L : List Value}, LR (Sc.R S ρ) (den m) L → LR (Sc.R S' ρ) (den (encB l x)) L) ∧ ∀ k, (rowAt (encB l x) k).map (fun r => r.l.length) = (rowAt m k).map (fun r => r.l.length)
 | [], [], x, _, _ => ⟨segsOK_nil, fun {L} q => by
   cases L with
   | nil => trivial
   | cons _ _ => exact q.elim, fun k => rfl⟩
 | a :: r, s :: m, x, he, hok => by
  simp only [decB] at he
  split at he
  ·rename_i y hy
   split at he
   ·rename_i z hz
    simp at he; subst he
    have hok1 : segsOK [s] := fun t n xs hm => hok t n xs (by simp at hm; simp [hm])
    obtain ⟨h1, h2, h3⟩ := decSeg_R hr hS hh hy hok1
    obtain ⟨g1, g2, g3⟩ := decB_R hr hS hh hz (segsOK_cons hok)
    refine ⟨(segsOK_append (a := [encSeg a y])).2 ⟨h1, g1⟩, fun {L} q => ?_, fun k => ?_⟩
    ·rw [den_cons] at q
     obtain ⟨A, B, rfl, hA, hB, _⟩ := q.split
     show LR _ (den (encSeg a y :: encB r z)) _
     rw [den_cons]
     exact (h2 hA).append (g2 hB)
    ·show (rowAt (encSeg a y :: encB r z) k).map _ = _
     rcases h3 with ⟨c1, c2, rfl, e⟩ | ⟨t, n, n', l, rfl, e, rfl⟩
     ·rw [e]
      cases k with
      | zero => rfl
      | succ k => exact g3 k
     ·rw [e]
      cases k with
      | zero => rfl
      | succ k =>
       simp only [rowAt]
       split
       ·exact g3 _
       ·rfl
   ·simp at he
  ·simp at he
 | [], _ :: _, _, he, _ => by simp [decB] at he
 | _ :: _, [], _, he, _ => by simp [decB] at he
theorem decSeg_seg {s : SegSh} {g : Seg} {x : s.T} (he : decSeg h ok s g = some x) (hg : segsOK [g]) : segsOK [encSeg s x] ∧ ((∃ a b, g = .c a ∧ encSeg s x = .c b) ∨ ∃ t n m l, g = .r t n l ∧ encSeg s x = .r t m l ∧ n = m) := by
 unfold decSeg at he
 split at he
 ·exact ⟨segsOK_c.2 segsOK_nil, .inl ⟨_, _, rfl, rfl⟩⟩
 ·obtain ⟨e0, e1⟩ := castL_ok he
  subst e0; subst e1
  have hl := (segsOK_r.1 hg).1
  exact ⟨segsOK_r.2 ⟨rfl, segsOK_nil⟩, .inr ⟨_, _, _, _, rfl, rfl, hl.symm⟩⟩
 ·split at he
  ·rename_i e
   subst e
   obtain ⟨e0, e1⟩ := castL_ok he
   subst e0; subst e1
   exact ⟨hg, .inr ⟨_, _, _, _, rfl, rfl, rfl⟩⟩
  ·simp at he
 ·simp at he
theorem decB_seg : ∀ {l : List SegSh} {m : List Seg} {x : BS l}, decB h ok l m = some x → segsOK m → segsOK (encB l x) ∧ ∀ k, (rowAt (encB l x) k).map (fun r => r.l.length) = (rowAt m k).map (fun r => r.l.length)
 | [], [], x, _, _ => ⟨segsOK_nil, fun k => rfl⟩
 | a :: r, s :: m, x, he, hok => by
  simp only [decB] at he
  split at he
  ·rename_i y hy
   split at he
   ·rename_i z hz
    simp at he; subst he
    have hok1 : segsOK [s] := fun t n xs hm => hok t n xs (by simp at hm; simp [hm])
    obtain ⟨h1, h3⟩ := decSeg_seg hy hok1
    obtain ⟨g1, g3⟩ := decB_seg hz (segsOK_cons hok)
    refine ⟨(segsOK_append (a := [encSeg a y])).2 ⟨h1, g1⟩, fun k => ?_⟩
    show (rowAt (encSeg a y :: encB r z) k).map _ = _
    rcases h3 with ⟨c1, c2, rfl, e⟩ | ⟨t, n, n', l, rfl, e, rfl⟩
    ·rw [e]
     cases k with
     | zero => rfl
     | succ k => exact g3 k
    ·rw [e]
     cases k with
     | zero => rfl
     | succ k =>
      simp only [rowAt]
      split
      ·exact g3 _
      ·rfl
   ·simp at he
  ·simp at he
 | [], _ :: _, _, he, _ => by simp [decB] at he
 | _ :: _, [], _, he, _ => by simp [decB] at he
theorem castL_nil {g t : Tag} {l : List t.T} (h : castL g t [] = some l) : l = [] := by
 obtain ⟨e, h1⟩ := castL_ok h
 subst e; exact h1
theorem decB_vir {l : List SegSh} {g : Tag} {x : BS l} (hb : decB h ok l [.r g 0 []] = some x) : ∃ g', encB l x = [.r g' 0 []] := by
 cases l with
 | nil => simp [decB] at hb
 | cons a r => cases r with
  | nil =>
   cases a with
   | c s => simp [decB, decSeg] at hb
   | r t n =>
    simp only [decB] at hb
    split at hb
    ·rename_i y hy
     simp at hb; subst hb
     cases n with
     | none =>
      obtain rfl := castL_nil hy
      exact ⟨t, rfl⟩
     | some n =>
      simp only [decSeg] at hy
      split at hy
      ·rename_i e; subst e
       obtain rfl := castL_nil hy
       exact ⟨t, rfl⟩
      ·simp at hy
    ·simp at hb
  | cons a2 r2 =>
   simp only [decB] at hb
   split at hb <;> simp at hb
theorem encSeg_still {s : SegSh} (hs : s.still = true) (hc : s.cell = true) {x : s.T} {ρ' : Rho} {L : List Value} (q : LR (Sc.R S ρ) (encSeg s x).den L) : LR (Sc.R S ρ') (encSeg s x).den L := by
 have go : (∀ c ∈ (encSeg s x).den, c.still = true) := by
  intro c hm
  cases s with
  | c s =>
   simp only [encSeg, Seg.den, List.mem_singleton] at hm
   subst hm
   cases s <;> simp [SegSh.still, Shp.still, SegSh.cell] at hs hc
   ·rename_i kc; cases kc <;> rfl
   ·rfl
   ·rfl
  | r t n =>
   cases n with
   | none => exact flat_still hm
   | some n => exact flat_still hm
 exact q.monoIn fun c V hm r => r.still (go c hm)
theorem encB_still : ∀ {l : List SegSh} (hs : l.all SegSh.still = true) (hc : l.all SegSh.cell = true) {x : BS l} {ρ' : Rho} {L : List Value}, LR (Sc.R S ρ) (den (encB l x)) L → LR (Sc.R S ρ') (den (encB l x)) L
 | [], _, _, x, ρ', L, q => by
  cases L with
  | nil => trivial
  | cons _ _ => exact q.elim
 | a :: r, hs, hc, x, ρ', L, q => by
  simp only [List.all_cons, Bool.and_eq_true] at hs hc
  rw [encB, den_cons] at q ⊢
  obtain ⟨A, B, rfl, hA, hB, _⟩ := q.split
  exact (encSeg_still hs.1 hc.1 hA).append (encB_still hs.2 hc.2 hB)
theorem encB_within {l : List SegSh} (hs : l.all SegSh.still = true) (hc : l.all SegSh.cell = true) {x : BS l} {n : Nat} : (den (encB l x)).all (Sc.within n) = true := by
 rw [List.all_eq_true]
 intro c hm
 have : c.still = true := by
  induction l with
  | nil => simp [encB, den] at hm
  | cons s l ih =>
   simp only [List.all_cons, Bool.and_eq_true] at hs hc
   rw [encB, den_cons] at hm
   rcases List.mem_append.1 hm with hm | hm
   ·cases s with
    | c s =>
     simp only [encSeg, Seg.den, List.mem_singleton] at hm
     subst hm
     obtain ⟨hs, _⟩ := hs
     obtain ⟨hc, _⟩ := hc
     cases s <;> simp [SegSh.still, Shp.still, SegSh.cell] at hs hc
     ·rename_i kc; cases kc <;> rfl
     ·rfl
     ·rfl
    | r t n =>
     cases n with
     | none => exact flat_still hm
     | some n => exact flat_still hm
   ·exact ih hs.2 hc.2 hm
 cases c <;> simp [Sc.still] at this <;> rfl
theorem encB_plain : ∀ {l : List SegSh} (hs : l.all SegSh.plain = true) (hc : l.all SegSh.cell = true) {x : BS l} {L : List Value}, LR (Sc.R S ρ) (den (encB l x)) L → LR (Sc.R S' ρ) (den (encB l x)) L
 | [], _, _, x, L, q => by
  cases L with
  | nil => trivial
  | cons _ _ => exact q.elim
 | a :: r, hs, hc, x, L, q => by
  simp only [List.all_cons, Bool.and_eq_true] at hs hc
  rw [encB, den_cons] at q ⊢
  obtain ⟨A, B, rfl, hA, hB, _⟩ := q.split
  refine LR.append ?_ (encB_plain hs.2 hc.2 hB)
  obtain ⟨hs, _⟩ := hs
  obtain ⟨hc, _⟩ := hc
  cases a with
  | c s =>
   match A, hA with
   | [V], hA =>
    refine ⟨?_, trivial⟩
    have h1 := hA.1
    cases s <;> simp [SegSh.plain, Shp.plain, SegSh.cell] at hs hc
    exact encK_R.2 (KR_plain hs (encK_R.1 h1))
   | [], hA => exact hA.elim
   | _ :: _ :: _, hA => exact hA.2.elim
  | r t n =>
   cases n with
   | none => exact flat_plain hs hA
   | some n => exact flat_plain hs hA

/-! ### What lies behind is let go, and stays as it is -/
theorem Rel.cut (hr : Rel S ρ h w) {m : Nat} (hm : m ≤ h.length) (hw : ∀ (i : Nat) (b : Blk), i < m → h[i]? = some b → b.live = true → b.cells.all (Sc.within m) = true) :
  ∃ S', S.le S' ∧ Rel S' (ρ.take m) (h.take m) w ∧ Frm m S S' ρ (ρ.take m) w w ∧ Held S' ρ h w (fun i => decide (m ≤ i)) := by
 classical
 have hml : (ρ.take m).length = m := by rw [List.length_take, hr.len]; omega
 have lo : ∀ {i : Nat} {x : Option Nat × Rg}, (ρ.take m)[i]? = some x → i < m ∧ ρ[i]? = some x := fun {i x} hx => by
  have hi := lt_of_get hx
  rw [hml] at hi
  rw [List.getElem?_take_of_lt hi] at hx; exact ⟨hi, hx⟩
 have lh : ∀ {i : Nat} {x : Blk}, (h.take m)[i]? = some x → i < m ∧ h[i]? = some x := fun {i x} hx => by
  have hi := lt_of_get hx
  rw [List.length_take] at hi
  have hi' : i < m := by omega
  rw [List.getElem?_take_of_lt hi'] at hx; exact ⟨hi', hx⟩
 let New : Nat → Prop := fun n => ∃ (i : Nat) (b : Blk) (t : Rg), m ≤ i ∧ h[i]? = some b ∧ b.live = true ∧ ρ[i]? = some (some n, t)
 have hS : S.le (fun n => if New n then w.heap[n]? else S n) := fun n o hn => by
  by_cases e : New n
  ·simp only [if_pos e]; exact (hr.sig n o hn).1
  ·simp only [if_neg e]; exact hn
 have memOf : ∀ n, n ∈ nums (ρ.take m) → n ∈ nums ρ := fun n hn => by
  obtain ⟨i, t, hi⟩ := nums_get hn
  exact mem_nums (lo hi).2
 refine ⟨fun n => if New n then w.heap[n]? else S n, hS, ⟨by rw [hml, List.length_take]; omega, ?_, ?_, ?_, ?_, fun n hn => hr.base n (memOf n hn)⟩, ?_, ?_⟩
 ·intro i j bi bj n t u hi hj li lj hni hnj
  exact hr.inj i j bi bj n t u (lh hi).2 (lh hj).2 li lj (lo hni).2 (lo hnj).2
 ·intro i b n t hb hn hl
  obtain ⟨L, rest, hL, h2⟩ := hr.blk i b n t (lh hb).2 (lo hn).2 hl
  refine ⟨L, rest, ?_, h2⟩
  have e : ρ = ρ.take m ++ ρ.drop m := (List.take_append_drop _ _).symm
  rw [e] at hL
  exact (LR_within (by rw [hml]; exact hw i b (lh hb).1 (lh hb).2 hl) hL).mono fun _ _ => Sc.R.of hS fun _ _ e => e
 ·intro i b t hb hn hl
  exact hr.vir i b t (lh hb).2 (lo hn).2 hl
 ·intro n o hn
  by_cases e : New n
  ·simp only [if_pos e] at hn
   refine ⟨hn, fun i b t hb hi => ?_⟩
   obtain ⟨j, bj, u, hj, hbj, hlj, hρj⟩ := e
   by_cases hl : b.live = true
   ·have := hr.inj i j b bj n t u (lh hb).2 hbj hl hlj (lo hi).2 hρj
    have := (lh hb).1
    omega
   ·simpa using hl
  ·simp only [if_neg e] at hn
   obtain ⟨h1, h2⟩ := hr.sig n o hn
   exact ⟨h1, fun i b t hb hi => h2 i b t (lh hb).2 (lo hi).2⟩
 ·refine ⟨rfl, rfl, rfl, Nat.le_refl _, by rw [List.take_take, Nat.min_self], fun _ => by rw [hml]; exact Nat.le_refl _, fun n hn => .inl (memOf n hn), fun _ _ _ => rfl, hS, fun n o hn => ?_⟩
  by_cases e : New n
  ·obtain ⟨j, bj, u, hj, hbj, hlj, hρj⟩ := e
   exact .inr (.inl (mem_nums hρj))
  ·simp only [if_neg e] at hn; exact .inl hn
 ·intro i n b t hi hb hl hn
  have e : New n := ⟨i, b, t, of_decide_eq_true hi, hb, hl, hn⟩
  simp only [if_pos e]
end

/-! ### Known functions -/
structure Kn (P : Program) where
 g : FuncId
 run : {R : Type} → List AV → List Blk → KA R → Option R
 ok : ∀ {R : Type} (args : List AV) (h : List Blk) (k : KA R) (r : R), run args h k = some r → ∃ rv h', k rv h' = some r ∧ Ext h.length h h' ∧ h.length ≤ h'.length ∧ CallGoes P g args h rv h'
section
variable {P : Program}
def orcL : List (Kn P) → {R : Type} → FuncId → List AV → List Blk → KA R → Option R
 | [], _, _, _, _, _ => none
 | x :: l, _, g, args, h, k => if x.g = g then x.run args h k else orcL l g args h k
theorem orcL_ok {R : Type} : ∀ (l : List (Kn P)), CallOK P (orcL l (R := R))
 | [] => fun g args h k r he => by simp [orcL] at he
 | x :: l => fun g args h k r he => by
  simp only [orcL] at he
  split at he
  ·rename_i e; subst e; exact x.ok args h k r he
  ·exact orcL_ok l g args h k r he

def PureOK (P : Program) (g : FuncId) (as rs : List Shp) (f : SS as → Option (SS rs)) : Prop :=
 ∀ x y, f x = some y → callable P g ∧ ∀ (S : Stay) (w : World) (A : List Value), Rel S [] [] w → LR (AV.R S []) (encSS as x) A → Calls P g A.toArray w fun e w' => ∃ S' V, e = .returned V ∧ (resOf rs y).R S' [] V ∧ Rel S' [] [] w' ∧ Frx S S' [] [] w w'
noncomputable def fnF (P : Program) (tbl : FuncId → Option Func) (ks : List (Kn P)) (los : {R : Type} → FuncId → Nat → Lo R) (n d : Nat) (g : FuncId) (as rs : List Shp) (x : SS as) : Option (SS rs) :=
 evCall P tbl (orcL ks) los n d g (encSS as x) [] (fun v h => decRes h (fun _ => true) rs v)
theorem fnF_ok {tbl : FuncId → Option Func} (ht : TblOK P tbl) {ks : List (Kn P)} {los : {R : Type} → FuncId → Nat → Lo R} (hlo : ∀ R, LosOK P (los (R := R))) {n d : Nat} {g : FuncId} {as rs : List Shp} (h1 : rs.all Shp.one = true) (h2 : rs.all Shp.still = true) :
  PureOK P g as rs (fnF P tbl ks los n d g as rs) := by
 intro x y he
 obtain ⟨rv, h', hk, _, _, hcal, hgo⟩ := evCall_ok ht (orcL_ok ks) (hlo _) n d g _ _ _ _ he
 refine ⟨hcal, fun S w A hr hA => ?_⟩
 refine (hgo S [] w A hr hA).mono ?_
 rintro e w' ⟨S', ρ', V, rfl, rV, hr', hf⟩
 obtain ⟨S2, hS2, hr2, hf2, hh⟩ := hr'.cut (m := 0) (Nat.zero_le _) fun i b hi => by omega
 have hres := decRes_R hr' hS2 (ok := fun _ => true) (fun i n b t _ => hh i n b t (by simp)) h1 hk rV
 have h9 : Frx S S2 [] [] w w' := by
  have := Frm.trans (show Frm 0 S S' [] ρ' w w' from hf) hf2
  have e0 : ρ'.take 0 = [] := rfl
  rw [e0] at this
  exact this
 exact ⟨S2, V, rfl, resOf_still h2 h1 hres, by simpa using hr2, h9⟩

theorem Rel.join {S S' : Stay} {w w' : World} {ρ : Rho} {h : List Blk} (hr : Rel S ρ h w) (hr' : Rel S' [] [] w') (hf : Frx S S' [] [] w w') : Rel S' ρ h w' ∧ Frx S S' ρ ρ w w' := by
 obtain ⟨h1, h2⟩ := hr.away hf.os hf.tape hf.output hf.size fun k hk => hf.block k hk (by simp [nums])
 refine ⟨⟨h1.len, h1.inj, fun i b n t hb hn => (h1.blk i b n t hb hn).of hf.sle fun _ _ e => e, h1.vir, fun n o hn => ?_, h1.base⟩, ⟨hf.os, hf.tape, hf.output, hf.size, rfl, id, fun _ h => .inl h, h2.block, hf.sle, fun n o hn => ?_⟩⟩
 ·refine ⟨(hr'.sig n o hn).1, fun i b t hb hi => ?_⟩
  rcases hf.sgr n o hn with h3 | h3 | h3
  ·exact (hr.sig n o h3).2 i b t hb hi
  ·simp [nums] at h3
  ·have := hr.base n (mem_nums hi); omega
 ·rcases hf.sgr n o hn with h3 | h3 | h3
  ·exact .inl h3
  ·simp [nums] at h3
  ·exact .inr (.inr h3)
theorem Rel.plain {S : Stay} {w : World} {ρ : Rho} {h : List Blk} (hr : Rel S ρ h w) : Rel S [] [] w := ⟨rfl, by simp, by simp, by simp, fun n o hn => ⟨(hr.sig n o hn).1, by simp⟩, by simp [nums]⟩

noncomputable def knPure (g : FuncId) (as rs : List Shp) (f : SS as → Option (SS rs)) (hf : PureOK P g as rs f) (h1 : rs.all Shp.one = true) (h2 : rs.all Shp.still = true) (h3 : as.all Shp.still = true) : Kn P where
 g := g
 run args h k := match decSS h (fun _ => false) as args with
  | some x => (f x).bind fun y => k (resOf rs y) h
  | none => none
 ok args h k r he := by
  split at he
  ·rename_i x hx
   obtain ⟨y, hy, hk⟩ := Option.bind_eq_some_iff.1 he
   obtain ⟨hcal, hgo⟩ := hf x y hy
   refine ⟨_, h, hk, Ext.refl _ _, Nat.le_refl _, hcal, fun S ρ w A hr hA => ?_⟩
   have hA' := encSS_still (ρ' := []) h3 (decSS_R hr (Stay.le.refl S) (fun _ _ _ _ h => by simp at h) hx hA)
   refine (hgo S w A hr.plain hA').mono ?_
   rintro e w' ⟨S', V, rfl, rV, hr', hf'⟩
   obtain ⟨g1, g2⟩ := hr.join hr' hf'
   exact ⟨S', ρ, V, rfl, resOf_still h2 h1 rV, g1, g2⟩
  ·simp at he
noncomputable def knView (g : FuncId) (as rs : List Shp) (f : SS as → Option (SS rs)) (hf : PureOK P g as rs f) (h1 : rs.all Shp.one = true) (h2 : rs.all Shp.plain = true) (h3 : as.all Shp.still = true) : Kn P where
 g := g
 run args h k := match decSS h (fun _ => true) as args with
  | some x => (f x).bind fun y => k (resOf rs y) h
  | none => none
 ok args h k r he := by
  split at he
  ·rename_i x hx
   obtain ⟨y, hy, hk⟩ := Option.bind_eq_some_iff.1 he
   obtain ⟨hcal, hgo⟩ := hf x y hy
   refine ⟨_, h, hk, Ext.refl _ _, Nat.le_refl _, hcal, fun S ρ w A hr hA => ?_⟩
   have hSa : S.le (all w) := fun n o hn => (hr.sig n o hn).1
   have hA' := encSS_still (ρ' := []) h3 (decSS_R hr hSa (fun i n b t _ _ _ _ => rfl) hx hA)
   refine (hgo (all w) w A (Rel.nothing w) hA').mono ?_
   rintro e w' ⟨S', V, rfl, rV, hr', hf'⟩
   obtain ⟨g1, g2⟩ := hr.away hf'.os hf'.tape hf'.output hf'.size fun k hk => hf'.block k hk (by simp [nums])
   have hst : rs.all Shp.still = true := by
    rw [List.all_eq_true] at h2 ⊢
    exact fun s hs => plain_still (h2 s hs)
   exact ⟨S, ρ, V, rfl, resOf_plain h2 h1 (resOf_still hst h1 rV), g1, g2⟩
  ·simp at he
end
end

section
open Go.RowKit
/-! ### A state, told anew: some blocks ahead, rows that grow, the rest let go -/
structure AccD where
 i : Option Nat
 g : Tag
 l : List g.T
 E : TypeId
def AccD.blk (a : AccD) : Blk := { segs := [.r a.g a.l.length a.l], elem := a.E }
section
variable {S : Stay} {w : World} {ρ : Rho} {h : List Blk}
structure Recast (S : Stay) (ρ : Rho) (h : List Blk) (w : World) (ok : Nat → Bool) (m : Nat) (b b' : Blk) : Prop where
 live : b'.live = true → b.live = true
 elem : b'.live = true → b'.elem = b.elem
 rel : b'.live = true → segsOK b.segs → segsOK b'.segs ∧ (∀ k, (rowAt b'.segs k).map (fun r => r.l.length) = (rowAt b.segs k).map (fun r => r.l.length)) ∧
  ∀ S2, S.le S2 → Held S2 ρ h w ok → ∀ L, LR (Sc.R S ρ) b.cells L → LR (Sc.R S2 ρ) b'.cells L
 within : b'.live = true → b'.cells.all (Sc.within m) = true
 vir : b'.live = true → ∀ g, b.segs = [.r g 0 []] → ∃ g', b'.segs = [.r g' 0 []]
def AccOK (ρ : Rho) (h : List Blk) (m : Nat) (a : AccD) (e : Option Nat × Rg) : Prop :=
 (e.1 = none ∧ a.l = [] ∧ ∀ x, e.2.ext x = 0) ∨
 ∃ ix n t0 b n' xs, a.i = some ix ∧ m ≤ ix ∧ e.1 = some n ∧ ρ[ix]? = some (some n, t0) ∧ h[ix]? = some b ∧ b.live = true ∧ b.segs = [.r a.g n' xs] ∧ b.elem = a.E ∧ a.l = xs.take a.l.length ∧ e.2.tot = t0.tot ∧ e.2.ext = extOf [.r a.g a.l.length a.l]

theorem Rel.settle (hr : Rel S ρ h w) {m : Nat} (hm : m ≤ h.length) {ok : Nat → Bool} {hs : List Blk} (hsl : hs.length = m) (hrec : ∀ (i : Nat) (b b' : Blk), h[i]? = some b → hs[i]? = some b' → Recast S ρ h w ok m b b')
  {accs : List AccD} {es : Rho} (hacc : LR (AccOK ρ h m) accs es) (hd : ∀ (j k : Nat) a b, accs[j]? = some a → accs[k]? = some b → a.i = b.i → a.i ≠ none → j = k) (hok : ∀ i, ok i = true → m ≤ i ∧ ∀ a ∈ accs, a.i ≠ some i) :
  ∃ S2, S.le S2 ∧ Held S2 ρ h w ok ∧ Rel S2 (ρ.take m ++ es) (hs ++ accs.map AccD.blk) w ∧ Frm m S S2 ρ (ρ.take m ++ es) w w := by
 classical
 have hml : (ρ.take m).length = m := by rw [List.length_take, hr.len]; omega
 have hel := hacc.length
 let New : Nat → Prop := fun n => ∃ (i : Nat) (b : Blk) (t : Rg), ok i = true ∧ h[i]? = some b ∧ b.live = true ∧ ρ[i]? = some (some n, t)
 generalize hS2 : (fun n => if New n then w.heap[n]? else S n : Stay) = S2
 have hS : S.le S2 := fun n o hn => by
  subst hS2
  by_cases e : New n
  ·simp only [if_pos e]; exact (hr.sig n o hn).1
  ·simp only [if_neg e]; exact hn
 have hHeld : Held S2 ρ h w ok := fun i n b t hi hb hl hn => by
  subst hS2
  have e : New n := ⟨i, b, t, hi, hb, hl, hn⟩
  simp only [if_pos e]
 have keyρ : ∀ {i : Nat} {x : Option Nat × Rg}, (ρ.take m ++ es)[i]? = some x → (i < m ∧ ρ[i]? = some x) ∨ (m ≤ i ∧ es[i - m]? = some x) := fun {i x} hx => by
  rcases Nat.lt_or_ge i m with hi | hi
  ·rw [List.getElem?_append_left (by omega), List.getElem?_take_of_lt hi] at hx; exact .inl ⟨hi, hx⟩
  ·rw [List.getElem?_append_right (by omega), hml] at hx; exact .inr ⟨hi, hx⟩
 have keyh : ∀ {i : Nat} {x : Blk}, (hs ++ accs.map AccD.blk)[i]? = some x → (i < m ∧ hs[i]? = some x ∧ ∃ b, h[i]? = some b) ∨ (m ≤ i ∧ ∃ a, accs[i - m]? = some a ∧ x = a.blk) := fun {i x} hx => by
  rcases Nat.lt_or_ge i m with hi | hi
  ·rw [List.getElem?_append_left (by omega)] at hx; exact .inl ⟨hi, hx, _, List.getElem?_eq_getElem (by omega)⟩
  ·rw [List.getElem?_append_right (by omega), hsl, List.getElem?_map, Option.map_eq_some_iff] at hx
   obtain ⟨a, ha, e⟩ := hx
   exact .inr ⟨hi, a, ha, e.symm⟩
 have accOf : ∀ {j : Nat} {a : AccD} {x : Option Nat × Rg}, accs[j]? = some a → es[j]? = some x → AccOK ρ h m a x := fun {j a x} ha hx => by
  obtain ⟨b, hb, r⟩ := hacc.get ha
  rw [hx] at hb; simp at hb; subst hb; exact r
 have numOf : ∀ {i n : Nat} {t : Rg}, (ρ.take m ++ es)[i]? = some (some n, t) → n ∈ nums ρ := fun {i n t} hx => by
  rcases keyρ hx with ⟨_, h1⟩ | ⟨h1, h2⟩
  ·exact mem_nums h1
  ·have hj := lt_of_get h2
   obtain ⟨a, ha⟩ : ∃ a, accs[i - m]? = some a := ⟨_, List.getElem?_eq_getElem (by omega)⟩
   rcases accOf ha h2 with ⟨e, _⟩ | ⟨ix, n', t0, b, _, _, _, _, e, hρ, _⟩
   ·simp at e
   ·simp only [Option.some.injEq] at e; subst e; exact mem_nums hρ
 refine ⟨S2, hS, hHeld, ⟨by simp [hml, hsl]; omega, ?_, ?_, ?_, ?_, fun n hn => ?_⟩, ?_⟩
 ·intro i j bi bj n t u hi hj li lj hni hnj
  rcases keyh hi with ⟨h1, h2, b1, h3⟩ | ⟨h1, a1, h2, rfl⟩
  ·have l1 : b1.live = true := (hrec i b1 bi h3 h2).live li
   have n1 : ρ[i]? = some (some n, t) := by
    rcases keyρ hni with ⟨_, q⟩ | ⟨q, _⟩
    ·exact q
    ·omega
   rcases keyh hj with ⟨h4, h5, b2, h6⟩ | ⟨h4, a2, h5, rfl⟩
   ·have l2 : b2.live = true := (hrec j b2 bj h6 h5).live lj
    have n2 : ρ[j]? = some (some n, u) := by
     rcases keyρ hnj with ⟨_, q⟩ | ⟨q, _⟩
     ·exact q
     ·omega
    exact hr.inj i j b1 b2 n t u h3 h6 l1 l2 n1 n2
   ·rcases keyρ hnj with ⟨q, _⟩ | ⟨_, q⟩
    ·omega
    ·rcases accOf h5 q with ⟨e, _⟩ | ⟨ix, n', t0, b, _, _, _, hix, e, hρ, hb, hlb, _⟩
     ·simp at e
     ·simp only [Option.some.injEq] at e; subst e
      have := hr.inj i ix b1 b n t t0 h3 hb l1 hlb n1 hρ
      omega
  ·rcases keyρ hni with ⟨q, _⟩ | ⟨_, q1⟩
   ·omega
   ·rcases accOf h2 q1 with ⟨e, _⟩ | ⟨ix, n', t0, b, _, _, hai, hix, e, hρ, hb, hlb, _⟩
    ·simp at e
    ·simp only [Option.some.injEq] at e; subst e
     rcases keyh hj with ⟨h4, h5, b2, h6⟩ | ⟨h4, a2, h5, rfl⟩
     ·have l2 : b2.live = true := (hrec j b2 bj h6 h5).live lj
      have n2 : ρ[j]? = some (some n, u) := by
       rcases keyρ hnj with ⟨_, q⟩ | ⟨q, _⟩
       ·exact q
       ·omega
      have := hr.inj j ix b2 b n u t0 h6 hb l2 hlb n2 hρ
      omega
     ·rcases keyρ hnj with ⟨q, _⟩ | ⟨_, q2⟩
      ·omega
      ·rcases accOf h5 q2 with ⟨e, _⟩ | ⟨iy, n2, t2, b2, _, _, haj, hiy, e, hρ2, hb2, hlb2, _⟩
       ·simp at e
       ·simp only [Option.some.injEq] at e; subst e
        have e1 := hr.inj ix iy b b2 n t0 t2 hb hb2 hlb hlb2 hρ hρ2
        subst e1
        have := hd (i - m) (j - m) a1 a2 h2 h5 (by rw [hai, haj]) (by rw [hai]; simp)
        omega
 ·intro i b n t hb hn hl
  rcases keyh hb with ⟨h1, h2, b1, h3⟩ | ⟨h1, a1, h2, rfl⟩
  ·have n1 : ρ[i]? = some (some n, t) := by
    rcases keyρ hn with ⟨_, q⟩ | ⟨q, _⟩
    ·exact q
    ·omega
   have rc := hrec i b1 b h3 h2
   have l1 : b1.live = true := rc.live hl
   obtain ⟨L, rest, hL, ho, htot, hsok, hext⟩ := hr.blk i b1 n t h3 n1 l1
   obtain ⟨g1, g2, g3⟩ := rc.rel hl hsok
   have hL2 := g3 S2 hS hHeld L hL
   refine ⟨L, rest, ?_, by rw [rc.elem hl]; exact ho, htot, g1, fun k r hk => ?_⟩
   ·have e : ρ = ρ.take m ++ ρ.drop m := (List.take_append_drop _ _).symm
    rw [e] at hL2
    refine (LR_within (by rw [hml]; exact rc.within hl) hL2).mono fun _ _ => Sc.R.of (Stay.le.refl S2) fun _ _ => get_prefix
   ·have := g2 k
    rw [hk] at this
    obtain ⟨r0, h5, h6⟩ := Option.map_eq_some_iff.1 this.symm
    have h6' : r0.l.length = r.l.length := h6
    rw [← h6']; exact hext k r0 h5
  ·rcases keyρ hn with ⟨q, _⟩ | ⟨_, q1⟩
   ·omega
   ·rcases accOf h2 q1 with ⟨e, _⟩ | ⟨ix, n', t0, b, m', xs, hai, hix, e, hρ, hb', hlb, hsegs, hE, hl', htot', hext'⟩
    ·simp at e
    ·simp only [Option.some.injEq] at e; subst e
     obtain ⟨L, rest, hL, ho, htot, hsok, hext⟩ := hr.blk ix b n t0 hb' hρ hlb
     simp only [Blk.cells, hsegs] at hL
     have hL0 : LR (Sc.R S ρ) (flat a1.g xs) L := by simpa [den, Seg.den] using hL
     have hll : a1.l.length ≤ xs.length := by
      have := congrArg List.length hl'
      rw [List.length_take] at this; omega
     have hLl := hL0.length
     rw [flat_length] at hLl
     have hle : a1.l.length * a1.g.sz ≤ L.length := by rw [← hLl]; exact Nat.mul_le_mul_right _ hll
     refine ⟨L.take (a1.l.length * a1.g.sz), L.drop (a1.l.length * a1.g.sz) ++ rest, ?_, ?_, ?_, segsOK_r.2 ⟨rfl, segsOK_nil⟩, fun k r hk => ?_⟩
     ·have h7 : LR (Sc.R S ρ) (flat a1.g a1.l) (L.take (a1.l.length * a1.g.sz)) := by
       rw [hl', flat_take]
       have e9 : (xs.take a1.l.length).length = a1.l.length := by rw [List.length_take]; omega
       rw [e9]; exact hL0.take _
      have h8 : LR (Sc.R S2 (ρ.take m ++ es)) (flat a1.g a1.l) (L.take (a1.l.length * a1.g.sz)) := h7.monoIn fun c V hc r => (Sc.R.of hS (fun _ _ e => e) r).still (flat_still hc)
      simpa [AccD.blk, Blk.cells, den, Seg.den] using h8
     ·rw [ho]
      simp only [AccD.blk, ← hE]
      rw [← List.append_assoc, List.take_append_drop]
     ·rw [← List.append_assoc, List.take_append_drop, htot, htot']
     ·rw [hext', extOf]
      have hk' : rowAt [.r a1.g a1.l.length a1.l] k = some r := hk
      rw [hk']
 ·intro i b t hb hn hl
  rcases keyh hb with ⟨h1, h2, b1, h3⟩ | ⟨h1, a1, h2, rfl⟩
  ·have n1 : ρ[i]? = some (none, t) := by
    rcases keyρ hn with ⟨_, q⟩ | ⟨q, _⟩
    ·exact q
    ·omega
   have rc := hrec i b1 b h3 h2
   have l1 : b1.live = true := rc.live hl
   obtain ⟨⟨g, e⟩, hx⟩ := hr.vir i b1 t h3 n1 l1
   exact ⟨rc.vir hl g e, hx⟩
  ·rcases keyρ hn with ⟨q, _⟩ | ⟨_, q1⟩
   ·omega
   ·rcases accOf h2 q1 with ⟨_, e, hx⟩ | ⟨ix, n', t0, b, _, _, _, _, e, _⟩
    ·exact ⟨⟨a1.g, by simp only [AccD.blk]; rw [e]; rfl⟩, hx⟩
    ·simp at e
 ·intro n o hn
  have hcase : (S n = some o ∧ ¬ New n) ∨ (New n ∧ w.heap[n]? = some o) := by
   subst hS2
   by_cases e : New n
   ·simp only [if_pos e] at hn; exact .inr ⟨e, hn⟩
   ·simp only [if_neg e] at hn; exact .inl ⟨hn, e⟩
  have hval : w.heap[n]? = some o := by
   rcases hcase with ⟨h1, _⟩ | ⟨_, h1⟩
   ·exact (hr.sig n o h1).1
   ·exact h1
  refine ⟨hval, fun i b t hb hi => ?_⟩
  by_cases hl : b.live = true
  ·exfalso
   have : ∃ (ix : Nat) (b0 : Blk) (t0 : Rg), h[ix]? = some b0 ∧ b0.live = true ∧ ρ[ix]? = some (some n, t0) ∧ (ix < m ∨ ∃ a ∈ accs, a.i = some ix) := by
    rcases keyh hb with ⟨h1, h2, b1, h3⟩ | ⟨h1, a1, h2, rfl⟩
    ·have n1 : ρ[i]? = some (some n, t) := by
      rcases keyρ hi with ⟨_, q⟩ | ⟨q, _⟩
      ·exact q
      ·omega
     exact ⟨i, b1, t, h3, (hrec i b1 b h3 h2).live hl, n1, .inl h1⟩
    ·rcases keyρ hi with ⟨q, _⟩ | ⟨_, q1⟩
     ·omega
     ·rcases accOf h2 q1 with ⟨e, _⟩ | ⟨ix, n', t0, b, _, _, hai, hix, e, hρ, hb', hlb, _⟩
      ·simp at e
      ·simp only [Option.some.injEq] at e; subst e
       exact ⟨ix, b, t0, hb', hlb, hρ, .inr ⟨a1, List.mem_of_getElem? h2, hai⟩⟩
   obtain ⟨ix, b0, t0, q1, q2, q3, q4⟩ := this
   rcases hcase with ⟨h1, _⟩ | ⟨⟨j, bj, u, hj, hbj, hlj, hρj⟩, _⟩
   ·rw [(hr.sig n o h1).2 ix b0 t0 q1 q3] at q2; simp at q2
   ·have e := hr.inj ix j b0 bj n t0 u q1 hbj q2 hlj q3 hρj
    subst e
    obtain ⟨k1, k2⟩ := hok ix hj
    rcases q4 with q4 | ⟨a, ha, hai⟩
    ·omega
    ·exact k2 a ha hai
  ·simpa using hl
 ·obtain ⟨i, t, hi⟩ := nums_get hn
  exact hr.base n (numOf hi)
 ·refine ⟨rfl, rfl, rfl, Nat.le_refl _, by rw [List.take_append_of_le_length (by omega), List.take_take, Nat.min_self], fun _ => by rw [List.length_append, hml]; omega, fun n hn => ?_, fun _ _ _ => rfl, hS, fun n o hn => ?_⟩
  ·obtain ⟨i, t, hi⟩ := nums_get hn
   exact .inl (numOf hi)
  ·subst hS2
   by_cases e : New n
   ·obtain ⟨j, bj, u, hj, hbj, hlj, hρj⟩ := e
    exact .inr (.inl (mem_nums hρj))
   ·simp only [if_neg e] at hn; exact .inl hn
end

/-! ### Methods over one block -/
section
variable {P : Program}
def one (E : TypeId) (sh : List SegSh) (b : BS sh) : Blk := { segs := encB sh b, elem := E }
def MethOK (P : Program) (g : FuncId) (E : TypeId) (sh : List SegSh) (as rs : List Shp) (f : SS as → BS sh → Option (SS rs × BS sh)) : Prop :=
 ∀ x b y b', f x b = some (y, b') → callable P g ∧ ∀ (S : Stay) (n : Nat) (t : Rg) (w : World) (A : List Value), Rel S [(some n, t)] [one E sh b] w → LR (AV.R S [(some n, t)]) (.one (.c (.p 0 0)) :: encSS as x) A →
  Calls P g A.toArray w fun e w' => ∃ S' V, e = .returned V ∧ (resOf rs y).R S' [] V ∧ Rel S' [(some n, t)] [one E sh b'] w' ∧ Frx S S' [(some n, t)] [(some n, t)] w w'
noncomputable def fnM (P : Program) (tbl : FuncId → Option Func) (ks : List (Kn P)) (los : {R : Type} → FuncId → Nat → Lo R) (n d : Nat) (g : FuncId) (E : TypeId) (sh : List SegSh) (as rs : List Shp) (x : SS as) (b : BS sh) : Option (SS rs × BS sh) :=
 evCall P tbl (orcL ks) los n d g (.one (.c (.p 0 0)) :: encSS as x) [one E sh b] (fun v h => match nth h 0 with
  | some blk => if blk.live = true ∧ blk.elem = E then match decRes h (fun i => Nat.ble 1 i) rs v with
    | some y => match decB h (fun i => Nat.ble 1 i) sh blk.segs with
     | some b' => some (y, b')
     | none => none
    | none => none
   else none
  | none => none)
theorem fnM_ok {tbl : FuncId → Option Func} (ht : TblOK P tbl) {ks : List (Kn P)} {los : {R : Type} → FuncId → Nat → Lo R} (hlo : ∀ R, LosOK P (los (R := R))) {n d : Nat} {g : FuncId} {E : TypeId} {sh : List SegSh} {as rs : List Shp} (h1 : rs.all Shp.one = true) (h2 : rs.all Shp.still = true) (h3 : sh.all SegSh.still = true) (h4 : sh.all SegSh.cell = true) :
  MethOK P g E sh as rs (fnM P tbl ks los n d g E sh as rs) := by
 intro x b y b' he
 obtain ⟨rv, h', hk, _, hle, hcal, hgo⟩ := evCall_ok ht (orcL_ok ks) (hlo _) n d g _ _ _ _ he
 simp only [nth_eq] at hk
 split at hk
 ·rename_i blk hblk
  split at hk
  ·rename_i hcond
   split at hk
   ·rename_i y' hy
    split at hk
    ·rename_i b2 hb
     simp only [Option.some.injEq, Prod.mk.injEq] at hk
     obtain ⟨rfl, rfl⟩ := hk
     refine ⟨hcal, fun S n t w A hr hA => ?_⟩
     refine (hgo S _ w A hr hA).mono ?_
     rintro e w' ⟨S', ρ', V, rfl, rV, hr', hf⟩
     have hsok : segsOK blk.segs := by
      obtain ⟨u, hu⟩ := Frx.pre hf
      have : ρ'[0]? = some (some n, t) := by rw [hu]; rfl
      obtain ⟨_, _, _, _, _, hsok, _⟩ := hr'.blkAt hblk hcond.1 this
      exact hsok
     have hrec : ∀ (i : Nat) (c c' : Blk), h'[i]? = some c → [one E sh b2][i]? = some c' → Recast S' ρ' h' w' (fun i => Nat.ble 1 i) 1 c c' := by
       intro i c c' hc hc'
       have hi := lt_of_get hc'
       simp at hi; subst hi
       simp only [List.getElem?_cons_zero, Option.some.injEq] at hc'
       rw [hblk] at hc; simp only [Option.some.injEq] at hc; subst hc; subst hc'
       refine ⟨fun _ => hcond.1, fun _ => by simp [one, hcond.2], fun _ hok => ?_, fun _ => encB_within h3 h4, fun _ g' hg => ?_⟩
       ·refine ⟨?_, ?_, fun S2 hS2 hh L hL => ?_⟩
        ·exact (decB_seg hb hok).1
        ·exact (decB_seg hb hok).2
        ·exact (decB_R hr' hS2 hh hb hok).2.1 hL
       ·rw [hg] at hb; exact decB_vir hb
     obtain ⟨S2, hS2, hh, hr2, hf2⟩ := hr'.settle (m := 1) (ok := fun i => Nat.ble 1 i) (hs := [one E sh b2]) (accs := []) (es := []) hle rfl hrec trivial (fun j k a b ha => by simp at ha) (fun i hi => ⟨Nat.le_of_ble_eq_true hi, by simp⟩)
     have hres := decRes_R hr' hS2 hh h1 hy rV
     have e0 : ρ'.take 1 = [(some n, t)] := by
      obtain ⟨u, hu⟩ := Frx.pre hf
      rw [hu]; rfl
     rw [e0] at hr2 hf2
     refine ⟨S2, V, rfl, resOf_still h2 h1 hres, hr2, ?_⟩
     exact Frm.trans (show Frm 1 S S' [(some n, t)] ρ' w w' from hf) hf2
    ·simp at hk
   ·simp at hk
  ·simp at hk
 ·simp at hk
end
end

section
open Go.RowKit
section
variable {P : Program} {S S' : Stay} {w w' : World} {ρ : Rho} {h : List Blk}
theorem Rel.put (hr : Rel S ρ h w) {i n : Nat} {t : Rg} {b b' : Blk} (hb : h[i]? = some b) (hl : b.live = true) (hn : ρ[i]? = some (some n, t)) (hl' : b'.live = true) (hr' : Rel S' [(some n, t)] [b'] w') (hf : Frx S S' [(some n, t)] [(some n, t)] w w')
  (hst : ∀ L, LR (Sc.R S' [(some n, t)]) b'.cells L → LR (Sc.R S' ρ) b'.cells L) : Rel S' ρ (h.set i b') w' ∧ Frx S S' ρ ρ w w' := by
 have hnum : ∀ k, k ∈ nums [(some n, t)] ↔ k = n := fun k => by simp [nums]
 have hoth : ∀ k, k < w.heap.size → k ≠ n → w'.heap[k]? = w.heap[k]? := fun k hk hne => hf.block k hk (fun hm => hne ((hnum k).1 hm))
 have key : ∀ (x : Nat) (bx : Blk), (h.set i b')[x]? = some bx → (x = i ∧ bx = b') ∨ (x ≠ i ∧ h[x]? = some bx) := by
  intro x bx hx
  rw [List.getElem?_set] at hx
  by_cases e : i = x
  ·subst e; simp [lt_of_get hb] at hx; exact .inl ⟨rfl, hx.symm⟩
  ·rw [if_neg e] at hx; exact .inr ⟨fun e' => e e'.symm, hx⟩
 have keyL : ∀ (x : Nat) (bx : Blk), (h.set i b')[x]? = some bx → bx.live = true → ∃ c, h[x]? = some c ∧ c.live = true := by
  intro x bx hx lx
  rcases key x bx hx with ⟨rfl, rfl⟩ | ⟨_, h1⟩
  ·exact ⟨b, hb, hl⟩
  ·exact ⟨bx, h1, lx⟩
 refine ⟨⟨by simp [hr.len], ?_, ?_, ?_, ?_, fun m hm => Nat.lt_of_lt_of_le (hr.base m hm) hf.size⟩, ⟨hf.os, hf.tape, hf.output, hf.size, rfl, id, fun _ h => .inl h, fun k hk hkn => hoth k hk (fun e => hkn (e ▸ mem_nums hn)), hf.sle, fun m o hm => ?_⟩⟩
 ·intro x y bx by_ m tx ty hx hy lx ly hmx hmy
  obtain ⟨c1, h1, l1⟩ := keyL x bx hx lx
  obtain ⟨c2, h2, l2⟩ := keyL y by_ hy ly
  exact hr.inj x y c1 c2 m tx ty h1 h2 l1 l2 hmx hmy
 ·intro x bx m tx hx hm lx
  rcases key x bx hx with ⟨rfl, rfl⟩ | ⟨hxi, h1⟩
  ·rw [hn] at hm; simp only [Option.some.injEq, Prod.mk.injEq] at hm
   obtain ⟨rfl, rfl⟩ := hm
   obtain ⟨L, rest, g1, g2⟩ := hr'.blk 0 bx n t rfl rfl hl'
   exact ⟨L, rest, hst L g1, g2⟩
  ·have hne : m ≠ n := fun e => hxi (hr.inj x i bx b m tx t h1 hb lx hl hm (e ▸ hn))
   rw [hoth m (hr.base m (mem_nums hm)) hne]
   exact (hr.blk x bx m tx h1 hm).of hf.sle (fun _ _ e => e) lx
 ·intro x bx tx hx hm lx
  rcases key x bx hx with ⟨rfl, rfl⟩ | ⟨hxi, h1⟩
  ·rw [hn] at hm; simp at hm
  ·exact hr.vir x bx tx h1 hm lx
 ·intro m o hm
  obtain ⟨g1, g2⟩ := hr'.sig m o hm
  have hne : m ≠ n := fun e => by
   subst e
   have := g2 0 b' t rfl rfl
   rw [hl'] at this; simp at this
  refine ⟨g1, fun x bx tx hx hmx => ?_⟩
  rcases hf.sgr m o hm with h3 | h3 | h3
  ·rcases key x bx hx with ⟨rfl, rfl⟩ | ⟨hxi, h4⟩
   ·rw [hn] at hmx; simp only [Option.some.injEq, Prod.mk.injEq] at hmx
    exact (hne hmx.1.symm).elim
   ·exact (hr.sig m o h3).2 x bx tx h4 hmx
  ·exact (hne ((hnum m).1 h3)).elim
  ·have := hr.base m (mem_nums hmx); omega
 ·rcases hf.sgr m o hm with h3 | h3 | h3
  ·exact .inl h3
  ·rw [hnum] at h3; subst h3; exact .inr (.inl (mem_nums hn))
  ·exact .inr (.inr h3)
theorem Rel.part (hr : Rel S ρ h w) {i n : Nat} {t : Rg} {b b' : Blk} (hb : h[i]? = some b) (hl : b.live = true) (hn : ρ[i]? = some (some n, t)) (hE : b'.elem = b.elem) (hok : segsOK b.segs → segsOK b'.segs ∧ ∀ k, (rowAt b'.segs k).map (fun r => r.l.length) = (rowAt b.segs k).map (fun r => r.l.length))
  (hR : ∀ L, segsOK b.segs → LR (Sc.R S ρ) b.cells L → LR (Sc.R S [(some n, t)]) b'.cells L) : Rel S [(some n, t)] [b'] w := by
 obtain ⟨L, rest, hL, ho, htot, hsok, hext⟩ := hr.blkAt hb hl hn
 have one : ∀ {x : Nat} {y : Blk}, [b'][x]? = some y → x = 0 ∧ y = b' := fun {x y} hx => by
  have := lt_of_get hx
  simp at this; subst this
  simp at hx; exact ⟨rfl, hx.symm⟩
 have oneρ : ∀ {x : Nat} {y : Option Nat × Rg}, [(some n, t)][x]? = some y → y = (some n, t) := fun {x y} hx => by
  have := lt_of_get hx
  simp at this; subst this
  simp at hx; exact hx.symm
 refine ⟨rfl, ?_, ?_, ?_, ?_, ?_⟩
 ·intro x y bx by_ m u v hx hy _ _ _ _
  rw [(one hx).1, (one hy).1]
 ·intro x bx m u hx hm _
  obtain ⟨rfl, rfl⟩ := one hx
  have := oneρ hm
  simp only [Prod.mk.injEq, Option.some.injEq] at this
  obtain ⟨rfl, rfl⟩ := this
  obtain ⟨g1, g2⟩ := hok hsok
  refine ⟨L, rest, hR L hsok hL, by rw [ho, hE], htot, g1, fun k r hk => ?_⟩
  have h5 := g2 k
  rw [hk] at h5
  obtain ⟨r0, h6, h7⟩ := Option.map_eq_some_iff.1 h5.symm
  have h7' : r0.l.length = r.l.length := h7
  rw [← h7']; exact hext k r0 h6
 ·intro x bx u hx hm
  have := oneρ hm
  simp at this
 ·intro m o hm
  obtain ⟨h1, h2⟩ := hr.sig m o hm
  refine ⟨h1, fun x bx u hx hmx => ?_⟩
  have := oneρ hmx
  simp only [Prod.mk.injEq, Option.some.injEq] at this
  obtain ⟨rfl, _⟩ := this
  rw [h2 i b t hb hn] at hl; simp at hl
 ·intro m hm
  simp [nums] at hm; subst hm
  exact hr.base _ (mem_nums hn)

noncomputable def knMeth (g : FuncId) (E : TypeId) (sh : List SegSh) (as rs : List Shp) (f : SS as → BS sh → Option (SS rs × BS sh)) (hf : MethOK P g E sh as rs f) (h1 : rs.all Shp.one = true) (h2 : rs.all Shp.still = true) (h3 : as.all Shp.still = true) (h4 : sh.all SegSh.still = true) (h5 : sh.all SegSh.cell = true) : Kn P where
 g := g
 run args h k := match args with
  | .one (.c (.p i 0)) :: rest => match nth h i with
   | some b => if b.live = true ∧ b.ro = false ∧ b.elem = E then match decB h (fun _ => false) sh b.segs with
     | some y => match decSS h (fun _ => false) as rest with
      | some x => (f x y).bind fun z => k (resOf rs z.1) (setN (one E sh z.2) h i)
      | none => none
     | none => none
    else none
   | none => none
  | _ => none
 ok args h k r he := by
  split at he
  ·rename_i i rest
   simp only [nth_eq, setN_eq] at he
   split at he
   ·rename_i b hb
    split at he
    ·rename_i hc
     split at he
     ·rename_i y hy
      split at he
      ·rename_i x hx
       obtain ⟨z, hz, hk⟩ := Option.bind_eq_some_iff.1 he
       obtain ⟨hcal, hgo⟩ := hf x y z.1 z.2 hz
       refine ⟨_, _, hk, Ext.set _ hb hc.2.1, by simp, hcal, fun S ρ w A hr hA => ?_⟩
       have hno : Held S ρ h w (fun _ => false) := fun _ _ _ _ h => by simp at h
       obtain ⟨V0, A', rfl⟩ : ∃ V0 A', A = V0 :: A' := by
        cases A with
        | nil => exact hA.elim
        | cons V A => exact ⟨V, A, rfl⟩
       obtain ⟨n, t, hn, rfl⟩ := hA.1
       have hA' : LR (AV.R S [(some n, t)]) (encSS as x) A' := encSS_still h3 (decSS_R hr (Stay.le.refl S) hno hx hA.2)
       have hsm : Rel S [(some n, t)] [one E sh y] w := hr.part hb hc.1 hn (by simp [one, hc.2.2]) (fun hok => decB_seg hy hok) (fun L hok hL => encB_still h4 h5 ((decB_R hr (Stay.le.refl S) hno hy hok).2.1 hL))
       refine (hgo S n t w (Value.pointer (some ⟨n, 0, none⟩) :: A') hsm ⟨⟨n, t, rfl, rfl⟩, hA'⟩).mono ?_
       rintro e w' ⟨S', V, rfl, rV, hr', hf'⟩
       obtain ⟨q1, q2⟩ := hr.put hb hc.1 hn rfl hr' hf' (fun L q => encB_still h4 h5 q)
       exact ⟨S', ρ, V, rfl, resOf_still h2 h1 rV, q1, q2⟩
      ·simp at he
     ·simp at he
    ·simp at he
   ·simp at he
  ·simp at he
end

/-! ### Rounds without a bound -/
section
variable {α β : Type}
def iterN (step : α → Option (α ⊕ β)) : Nat → α → Option β
 | 0, _ => none
 | n + 1, a => match step a with
  | some (.inl a') => iterN step n a'
  | some (.inr b) => some b
  | none => none
theorem iterN_mono {step : α → Option (α ⊕ β)} : ∀ (n : Nat) {a : α} {b : β}, iterN step n a = some b → iterN step (n + 1) a = some b
 | 0, a, b, h => by simp [iterN] at h
 | n + 1, a, b, h => by
  rw [iterN] at h ⊢
  split at h
  ·rename_i a' ha; exact iterN_mono n h
  ·exact h
  ·simp at h
theorem iterN_le {step : α → Option (α ⊕ β)} {n m : Nat} (hnm : n ≤ m) {a : α} {b : β} (h : iterN step n a = some b) : iterN step m a = some b := by
 induction hnm with
 | refl => exact h
 | step _ ih => exact iterN_mono _ ih
open Classical in
noncomputable def iterU (step : α → Option (α ⊕ β)) (a : α) : Option β := if h : ∃ n b, iterN step n a = some b then some (Classical.choose (Classical.choose_spec h)) else none
theorem iterU_of {step : α → Option (α ⊕ β)} {n : Nat} {a : α} {b : β} (h : iterN step n a = some b) : iterU step a = some b := by
 have hx : ∃ n b, iterN step n a = some b := ⟨n, b, h⟩
 unfold iterU
 rw [dif_pos hx]
 have h2 := Classical.choose_spec (Classical.choose_spec hx)
 have h3 := iterN_le (Nat.le_max_left n (Classical.choose hx)) h
 have h4 := iterN_le (Nat.le_max_right n (Classical.choose hx)) h2
 rw [h3] at h4
 exact h4.symm
theorem iterU_some {step : α → Option (α ⊕ β)} {a : α} {b : β} (h : iterU step a = some b) : ∃ n, iterN step n a = some b := by
 unfold iterU at h
 split at h
 ·rename_i hx
  simp only [Option.some.injEq] at h
  exact ⟨_, h ▸ Classical.choose_spec (Classical.choose_spec hx)⟩
 ·simp at h
theorem iterU_eq (step : α → Option (α ⊕ β)) (a : α) : iterU step a = match step a with
  | some (.inl a') => iterU step a'
  | some (.inr b) => some b
  | none => none := by
 cases hs : step a with
 | none =>
  cases hu : iterU step a with
  | none => rfl
  | some b =>
   obtain ⟨n, hn⟩ := iterU_some hu
   cases n with
   | zero => simp [iterN] at hn
   | succ n => simp [iterN, hs] at hn
 | some y => cases y with
  | inr b => exact iterU_of (n := 1) (by simp [iterN, hs])
  | inl a' =>
   simp only
   cases hu : iterU step a' with
   | none =>
    cases hu2 : iterU step a with
    | none => rfl
    | some b =>
     obtain ⟨n, hn⟩ := iterU_some hu2
     cases n with
     | zero => simp [iterN] at hn
     | succ n =>
      simp only [iterN, hs] at hn
      rw [iterU_of hn] at hu; simp at hu
   | some b =>
    obtain ⟨n, hn⟩ := iterU_some hu
    exact iterU_of (n := n + 1) (by simp [iterN, hs, hn])
end
end

section
open Go.RowKit
/-! ### The shape of a loop's state -/
structure LSh where
 n : Nat
 slots : List (Nat × Shp)
 blks : List (Option (TypeId × List SegSh))
 accs : List (Nat × Tag × TypeId)
@[reducible] def SL : List (Nat × Shp) → Type
 | [] => Unit
 | a :: r => a.2.T × SL r
@[reducible] def HB : List (Option (TypeId × List SegSh)) → Type
 | [] => Unit
 | none :: r => HB r
 | some a :: r => BS a.2 × HB r
@[reducible] def AC : List (Nat × Tag × TypeId) → Type
 | [] => Unit
 | a :: r => List a.2.1.T × AC r
@[reducible] def LS (s : LSh) : Type := SL s.slots × HB s.blks × AC s.accs
def deadB : Blk := { segs := [], elem := 0, live := false }
def hbBlks : (l : List (Option (TypeId × List SegSh))) → HB l → List Blk
 | [], _ => []
 | none :: r, x => deadB :: hbBlks r x
 | some a :: r, x => { segs := encB a.2 x.1, elem := a.1 } :: hbBlks r x.2
def accBlks : (l : List (Nat × Tag × TypeId)) → AC l → List Blk
 | [], _ => []
 | a :: r, x => { segs := [.r a.2.1 (List.length x.1) x.1], elem := a.2.2 } :: accBlks r x.2
noncomputable def putSlots : (l : List (Nat × Shp)) → SL l → List AV → List AV
 | [], _, sl => sl
 | a :: r, x, sl => putSlots r x.2 (setN (encS a.2 x.1) sl a.1)
noncomputable def putAccs : Nat → (l : List (Nat × Tag × TypeId)) → AC l → List AV → List AV
 | _, [], _, sl => sl
 | j, a :: r, x, sl => putAccs (j + 1) r x.2 (setN (.one (.c (.r j 0 a.2.1.sz 0 (List.length x.1) none))) sl a.1)
noncomputable def encF (s : LSh) (x : LS s) : List AV := putAccs s.blks.length s.accs x.2.2 (putSlots s.slots x.1 (List.replicate s.n .top))
def encH (s : LSh) (x : LS s) : List Blk := hbBlks s.blks x.2.1 ++ accBlks s.accs x.2.2

noncomputable def decSlots (h : List Blk) (ok : Nat → Bool) (sl : List AV) : (l : List (Nat × Shp)) → Option (SL l)
 | [] => some ()
 | a :: r => match nth sl a.1 with
  | some v => match decS h ok a.2 v with
   | some x => match decSlots h ok sl r with
    | some y => some (x, y)
    | none => none
   | none => none
  | none => none
noncomputable def decHB (h : List Blk) (ok : Nat → Bool) : (l : List (Option (TypeId × List SegSh))) → Nat → Option (HB l)
 | [], _ => some ()
 | none :: r, i => match nth h i with
  | some b => if b.ro = false then decHB h ok r (i + 1) else none
  | none => none
 | some a :: r, i => match nth h i with
  | some b => if b.live = true ∧ b.ro = false ∧ b.elem = a.1 then match decB h ok a.2 b.segs with
    | some x => match decHB h ok r (i + 1) with
     | some y => some (x, y)
     | none => none
    | none => none
   else none
  | none => none
noncomputable def rootOf (sl : List AV) (p : Nat) : Option Nat :=
 match nth sl p with
 | some (.one (.c (.r i _ _ _ _ _))) => some i
 | _ => none
noncomputable def rootsOf (sl : List AV) (l : List (Nat × Tag × TypeId)) : List (Option Nat) := l.map fun a => rootOf sl a.1
noncomputable def decAcc (h : List Blk) (m : Nat) (t : Tag) (E : TypeId) (v : AV) : Option (List t.T) :=
 match v with
 | .one (.c (.v (.slice none 0 0))) => some []
 | .one (.c (.r i 0 es 0 len _)) => match nth h i with
  | some b => if b.live = true ∧ b.elem = E ∧ es = t.sz ∧ Nat.ble m i = true then match b.segs with
    | [.r g _ l] => match castL g t l with
     | some l' => some (l'.take len)
     | none => none
    | _ => none
   else none
  | none => none
 | _ => none
noncomputable def decAccs (h : List Blk) (m : Nat) (sl : List AV) : (l : List (Nat × Tag × TypeId)) → Option (AC l)
 | [] => some ()
 | a :: r => match nth sl a.1 with
  | some v => match decAcc h m a.2.1 a.2.2 v with
   | some x => match decAccs h m sl r with
    | some y => some (x, y)
    | none => none
   | none => none
  | none => none
def distinctO : List (Option Nat) → Bool
 | [] => true
 | none :: r => distinctO r
 | some i :: r => !(r.contains (some i)) && distinctO r
noncomputable def decL0 (s : LSh) (sl : List AV) (h : List Blk) : Option (LS s) :=
 if sl.length = s.n ∧ distinctO (rootsOf sl s.accs) = true then
  match decSlots h (fun i => Nat.ble s.blks.length i && !((rootsOf sl s.accs).contains (some i))) sl s.slots with
  | some x => match decHB h (fun i => Nat.ble s.blks.length i && !((rootsOf sl s.accs).contains (some i))) s.blks 0 with
   | some y => match decAccs h s.blks.length sl s.accs with
    | some z => some (x, y, z)
    | none => none
   | none => none
  | none => none
 else none
noncomputable def mvGo (m : Nat) : List (Nat × Tag × TypeId) → List AV → List Blk → List AV × List Blk
 | [], sl, h => (sl, h)
 | a :: r, sl, h => match nth sl a.1 with
  | some (.one (.c (.r i base es st len cap))) => if Nat.blt i m = true then match nth h i with
    | some b => mvGo m r (setN (.one (.c (.r (List.length h) base es st len cap))) sl a.1) (setN { b with live := false } h i ++ [b])
    | none => mvGo m r sl h
   else mvGo m r sl h
  | _ => mvGo m r sl h
noncomputable def mvA (m : Nat) (l : List (Nat × Tag × TypeId)) (sl : List AV) (h : List Blk) : List AV × List Blk := if Nat.ble m (List.length h) = true then mvGo m l sl h else (sl, h)
noncomputable def decL (s : LSh) (sl : List AV) (h : List Blk) : Option (LS s) := decL0 s (mvA s.blks.length s.accs sl h).1 (mvA s.blks.length s.accs sl h).2
def Shp.low (m : Nat) : Shp → Bool
 | .ptr i _ => Nat.blt i m
 | .clo _ caps => caps.all fun x => Nat.blt x.1 m
 | .sl i _ _ => Nat.blt i m
 | .sr i _ _ => Nat.blt i m
 | .sk i _ _ _ _ => Nat.blt i m
 | _ => true
def SegSh.low (m : Nat) : SegSh → Bool
 | .c s => s.low m
 | .r _ _ => true
def LSh.low (s : LSh) : Bool := (s.slots.all fun a => a.2.low s.blks.length) && s.blks.all fun b => match b with
 | none => true
 | some a => a.2.all fun c => c.low s.blks.length && c.cell

section
variable {S S' : Stay} {w : World} {ρ ρ' : Rho} {h : List Blk}
theorem blt_lt {a b : Nat} (h : Nat.blt a b = true) : a < b := by rw [Nat.blt_eq] at h; exact h
theorem encS_low {m : Nat} {s : Shp} (hs : s.low m = true) (hρ : ∀ (i : Nat) x, i < m → ρ[i]? = some x → ρ'[i]? = some x) {x : s.T} {V : Value} (r : (encS s x).R S ρ V) : (encS s x).R S ρ' V := by
 cases s with
 | ptr i off =>
  obtain ⟨b, t, h1, h2⟩ := r
  exact ⟨b, t, hρ _ _ (blt_lt hs) h1, h2⟩
 | clo g caps =>
  obtain ⟨L, h1, h2⟩ := r
  refine ⟨L, h1.monoIn fun c V hc ⟨b, t, q1, q2⟩ => ⟨b, t, hρ _ _ ?_ q1, q2⟩, h2⟩
  simp only [Shp.low, List.all_eq_true] at hs
  exact blt_lt (hs c hc)
 | sl i base es =>
  obtain ⟨o, t, h1, h2⟩ := r
  exact ⟨o, t, hρ _ _ (blt_lt hs) h1, h2⟩
 | sr i base es =>
  obtain ⟨o, t, h1, h2⟩ := r
  exact ⟨o, t, hρ _ _ (blt_lt hs) h1, h2⟩
 | sk i base es len cap =>
  obtain ⟨o, t, h1, h2⟩ := r
  exact ⟨o, t, hρ _ _ (blt_lt hs) h1, h2⟩
 | k c => exact encS_still rfl r
 | im t => exact encS_still rfl r
 | agg t => exact encS_still rfl r
 | ag2 t e => exact encS_still rfl r
 | arr t n => exact encS_still rfl r
 | ip t => exact encS_still rfl r
 | any => trivial
theorem encB_low {m : Nat} : ∀ {l : List SegSh} (hs : (l.all fun c => c.low m && c.cell) = true) {x : BS l}, (den (encB l x)).all (Sc.within m) = true
 | [], _, _ => rfl
 | a :: r, hs, x => by
  simp only [List.all_cons, Bool.and_eq_true] at hs
  rw [encB, den_cons, List.all_append, Bool.and_eq_true]
  refine ⟨?_, encB_low hs.2⟩
  obtain ⟨⟨hl, hc⟩, _⟩ := hs
  cases a with
  | r t n => cases n with
   | none => exact within_flat
   | some n => exact within_flat
  | c s =>
   simp only [encSeg, Seg.den, List.all_cons, List.all_nil, Bool.and_true]
   cases s with
   | ptr i off => simpa [encSc, Sc.within] using blt_lt hl
   | clo g caps =>
    simp only [SegSh.low, Shp.low, List.all_eq_true] at hl
    simp only [encSc, Sc.within, List.all_eq_true, decide_eq_true_eq]
    exact fun c hc => blt_lt (hl c hc)
   | sl i base es => simpa [encSc, Sc.within] using blt_lt hl
   | sr i base es => simpa [encSc, Sc.within] using blt_lt hl
   | sk i base es len cap => simpa [encSc, Sc.within] using blt_lt hl
   | k c => cases c <;> rfl
   | im t => rfl
   | ip t => rfl
   | agg t => simp [SegSh.cell] at hc
   | ag2 t e => simp [SegSh.cell] at hc
   | arr t n => simp [SegSh.cell] at hc
   | any => simp [SegSh.cell] at hc
theorem hbBlks_length : ∀ (l : List (Option (TypeId × List SegSh))) (x : HB l), (hbBlks l x).length = l.length
 | [], _ => rfl
 | none :: r, x => by simp [hbBlks, hbBlks_length r x]
 | some a :: r, x => by simp [hbBlks, hbBlks_length r x.2]

theorem decHB_ok {ok : Nat → Bool} (hr : Rel S ρ h w) {m : Nat} : ∀ {l : List (Option (TypeId × List SegSh))} {i0 : Nat} {x : HB l}, decHB h ok l i0 = some x → (l.all fun b => match b with
   | none => true
   | some a => a.2.all fun c => c.low m && c.cell) = true → ∀ (j : Nat) (b b' : Blk), h[i0 + j]? = some b → (hbBlks l x)[j]? = some b' → b.ro = false ∧ (b'.live = true → b.live = true ∧ ∃ E sh y, b' = { segs := encB sh y, elem := E } ∧ b.elem = E ∧ decB h ok sh b.segs = some y ∧ (sh.all fun c => c.low m && c.cell) = true)
 | [], i0, x, _, _, j, b, b', _, hb' => by simp [hbBlks] at hb'
 | none :: r, i0, x, he, hl, j, b, b', hb, hb' => by
  simp only [decHB, nth_eq] at he
  simp only [List.all_cons, Bool.and_eq_true] at hl
  split at he
  ·rename_i c hc
   split at he
   ·rename_i hro
    cases j with
    | zero =>
     simp only [Nat.add_zero] at hb
     rw [hc] at hb; simp only [Option.some.injEq] at hb; subst hb
     simp only [hbBlks, List.getElem?_cons_zero, Option.some.injEq] at hb'
     subst hb'
     exact ⟨hro, fun h => by simp [deadB] at h⟩
    | succ j =>
     exact decHB_ok hr he hl.2 j b b' (by rw [← hb]; congr 1; omega) (by simpa [hbBlks] using hb')
   ·simp at he
  ·simp at he
 | some a :: r, i0, x, he, hl, j, b, b', hb, hb' => by
  simp only [decHB, nth_eq] at he
  simp only [List.all_cons, Bool.and_eq_true] at hl
  split at he
  ·rename_i c hc
   split at he
   ·rename_i hcond
    split at he
    ·rename_i y hy
     split at he
     ·rename_i z hz
      simp only [Option.some.injEq] at he; subst he
      cases j with
      | zero =>
       simp only [Nat.add_zero] at hb
       rw [hc] at hb; simp only [Option.some.injEq] at hb; subst hb
       simp only [hbBlks, List.getElem?_cons_zero, Option.some.injEq] at hb'
       subst hb'
       exact ⟨hcond.2.1, fun _ => ⟨hcond.1, a.1, a.2, y, rfl, hcond.2.2, hy, hl.1⟩⟩
      | succ j =>
       exact decHB_ok hr hz hl.2 j b b' (by rw [← hb]; congr 1; omega) (by simpa [hbBlks] using hb')
     ·simp at he
    ·simp at he
   ·simp at he
  ·simp at he
theorem decHB_len {ok : Nat → Bool} : ∀ {l : List (Option (TypeId × List SegSh))} {i0 : Nat} {x : HB l}, decHB h ok l i0 = some x → i0 ≤ h.length → i0 + l.length ≤ h.length
 | [], i0, x, _, hi => by simpa using hi
 | none :: r, i0, x, he, hi => by
  simp only [decHB, nth_eq] at he
  split at he
  ·rename_i c hc
   split at he
   ·have := decHB_len he (lt_of_get hc); simp; omega
   ·simp at he
  ·simp at he
 | some a :: r, i0, x, he, hi => by
  simp only [decHB, nth_eq] at he
  split at he
  ·rename_i c hc
   split at he
   ·split at he
    ·split at he
     ·rename_i z hz
      have := decHB_len hz (lt_of_get hc); simp; omega
     ·simp at he
    ·simp at he
   ·simp at he
  ·simp at he
end
section
variable {S : Stay} {w : World} {ρ : Rho} {h : List Blk}
theorem Rel.move (hr : Rel S ρ h w) {i : Nat} {b : Blk} {x : Option Nat × Rg} (hb : h[i]? = some b) (hx : ρ[i]? = some x) : Rel S (ρ ++ [x]) (h.set i { b with live := false } ++ [b]) w := by
 have hk := hr.kill i hb
 have hl : (h.set i { b with live := false }).length = ρ.length := by rw [List.length_set, hr.len]
 have key : ∀ (j : Nat) (bj : Blk) (xj : Option Nat × Rg), (h.set i { b with live := false } ++ [b])[j]? = some bj → (ρ ++ [x])[j]? = some xj → (j < ρ.length ∧ (h.set i { b with live := false })[j]? = some bj ∧ ρ[j]? = some xj) ∨ (j = ρ.length ∧ bj = b ∧ xj = x) := by
  intro j bj xj h1 h2
  rcases get_snoc h1 with ⟨g1, g2⟩ | ⟨g1, g2⟩
  ·rcases get_snoc h2 with ⟨f1, f2⟩ | ⟨f1, f2⟩
   ·exact .inl ⟨f1, g2, f2⟩
   ·omega
  ·rcases get_snoc h2 with ⟨f1, f2⟩ | ⟨f1, f2⟩
   ·omega
   ·exact .inr ⟨f1, g2, f2⟩
 have old : ∀ (j : Nat) (bj : Blk), (h.set i { b with live := false })[j]? = some bj → bj.live = true → j ≠ i ∧ h[j]? = some bj := by
  intro j bj h1 h2
  rw [List.getElem?_set] at h1
  by_cases e : i = j
  ·subst e; simp [lt_of_get hb] at h1; subst h1; simp at h2
  ·rw [if_neg e] at h1; exact ⟨fun e' => e e'.symm, h1⟩
 have pre : ∀ (j : Nat) y, ρ[j]? = some y → (ρ ++ [x])[j]? = some y := fun j y hy => get_prefix hy
 refine ⟨by simp [hr.len], ?_, ?_, ?_, ?_, ?_⟩
 ·intro p q bp bq n t u hp hq lp lq np nq
  rcases key p bp _ hp np with ⟨a1, a2, a3⟩ | ⟨a1, a2, a3⟩
  ·rcases key q bq _ hq nq with ⟨c1, c2, c3⟩ | ⟨c1, c2, c3⟩
   ·exact hk.inj p q bp bq n t u a2 c2 lp lq a3 c3
   ·subst c2
    obtain ⟨o1, o2⟩ := old p bp a2 lp
    exact absurd (hr.inj p i bp bq n t u o2 hb lp lq a3 (c3 ▸ hx)) o1
  ·rcases key q bq _ hq nq with ⟨c1, c2, c3⟩ | ⟨c1, c2, c3⟩
   ·subst a2
    obtain ⟨o1, o2⟩ := old q bq c2 lq
    exact absurd (hr.inj q i bq bp n u t o2 hb lq lp c3 (a3 ▸ hx)) o1
   ·omega
 ·intro p bp n t hp np
  rcases key p bp _ hp np with ⟨a1, a2, a3⟩ | ⟨a1, a2, a3⟩
  ·exact (hk.blk p bp n t a2 a3).of (Stay.le.refl S) pre
  ·subst a2
   exact (hr.blk i bp n t hb (a3 ▸ hx)).of (Stay.le.refl S) pre
 ·intro p bp t hp np lp
  rcases key p bp _ hp np with ⟨a1, a2, a3⟩ | ⟨a1, a2, a3⟩
  ·exact hk.vir p bp t a2 a3 lp
  ·subst a2
   exact hr.vir i bp t hb (a3 ▸ hx) lp
 ·intro n o hn
  refine ⟨(hr.sig n o hn).1, fun p bp t hp np => ?_⟩
  rcases key p bp _ hp np with ⟨a1, a2, a3⟩ | ⟨a1, a2, a3⟩
  ·exact (hk.sig n o hn).2 p bp t a2 a3
  ·subst a2
   exact (hr.sig n o hn).2 i bp t hb (a3 ▸ hx)
 ·intro n hn
  obtain ⟨j, t, hj⟩ := nums_get hn
  rcases get_snoc hj with ⟨f1, f2⟩ | ⟨f1, f2⟩
  ·exact hr.base n (mem_nums f2)
  ·rw [← f2] at hx; exact hr.base n (mem_nums hx)
theorem frm_move {m : Nat} {x : Option Nat × Rg} {i : Nat} (hm : m ≤ ρ.length) (hx : ρ[i]? = some x) : Frm m S S ρ (ρ ++ [x]) w w := by
 refine ⟨rfl, rfl, rfl, Nat.le_refl _, ?_, fun q => by rw [List.length_append]; omega, fun n hn => ?_, fun _ _ _ => rfl, Stay.le.refl S, fun _ _ h => .inl h⟩
 ·rw [List.take_append_of_le_length hm]
 ·obtain ⟨j, t, hj⟩ := nums_get hn
  rcases get_snoc hj with ⟨f1, f2⟩ | ⟨f1, f2⟩
  ·exact .inl (mem_nums f2)
  ·rw [← f2] at hx; exact .inl (mem_nums hx)
theorem r_move {i base es st len : Nat} {cap : Option Nat} {V : Value} {x : Option Nat × Rg} (hx : ρ[i]? = some x) (r : (AV.one (.c (.r i base es st len cap))).R S ρ V) : (AV.one (.c (.r ρ.length base es st len cap))).R S (ρ ++ [x]) V := by
 obtain ⟨o, t, h1, h2⟩ := r
 rw [hx] at h1
 simp only [Option.some.injEq] at h1
 exact ⟨o, t, by rw [List.getElem?_append_right (Nat.le_refl _)]; simp [h1], h2⟩
end
end

section
open Go.RowKit
section
variable {S S' : Stay} {w : World} {ρ ρ' : Rho} {h : List Blk}
theorem take_len_self {α : Type} (l : List α) (n : Nat) : l.take n = l.take (l.take n).length := by
 rw [List.length_take]
 rcases Nat.lt_or_ge n l.length with h | h
 ·rw [Nat.min_eq_left (by omega)]
 ·rw [Nat.min_eq_right h, List.take_of_length_le h, List.take_of_length_le (Nat.le_refl _)]
theorem decAcc_ok (hr : Rel S ρ h w) {m : Nat} {t : Tag} {E : TypeId} {v : AV} {x : List t.T} (he : decAcc h m t E v = some x) {V : Value} (hV : v.R S ρ V) :
  ∃ d e, AccOK ρ h m d e ∧ d.blk = { segs := [.r t x.length x], elem := E } ∧ (∀ i, d.i = some i → ∃ base es st len cap, v = .one (.c (.r i base es st len cap))) ∧
   ∀ (S' : Stay) (ρ2 : Rho) (k : Nat), ρ2[k]? = some e → (AV.one (.c (.r k 0 t.sz 0 x.length none))).R S' ρ2 V := by
 unfold decAcc at he
 simp only [nth_eq] at he
 have nil : ∀ (A : Option Addr), V = .slice A 0 0 → x = [] → ∃ d e, AccOK ρ h m d e ∧ d.blk = { segs := [.r t x.length x], elem := E } ∧ (∀ i, d.i = some i → ∃ base es st len cap, v = .one (.c (.r i base es st len cap))) ∧
   ∀ (S' : Stay) (ρ2 : Rho) (k : Nat), ρ2[k]? = some e → (AV.one (.c (.r k 0 t.sz 0 x.length none))).R S' ρ2 V := by
  rintro A rfl rfl
  exact ⟨⟨none, t, [], E⟩, (none, ⟨0, fun _ => 0⟩), .inl ⟨rfl, rfl, fun _ => rfl⟩, rfl, fun i h => by simp at h, fun S' ρ2 k hk => ⟨none, _, hk, by simp, fun d e => by simp at e, .inr ⟨A, rfl, rfl, fun d e => by simp at e⟩⟩⟩
 split at he
 ·simp at he; subst he
  obtain ⟨rfl, _⟩ := hV
  exact nil none rfl rfl
 ·rename_i i es len cap
  split at he
  ·rename_i b hb
   split at he
   ·rename_i hc
    obtain ⟨hl, hE, hes, hm⟩ := hc
    split at he
    ·rename_i g n l hsegs
     split at he
     ·rename_i l' hl'
      obtain ⟨e0, e1⟩ := castL_ok hl'
      subst e0; subst l'
      simp only [Option.some.injEq] at he
      obtain ⟨o, tn, hn, hle, hcap, hV⟩ := hV
      rcases hV with ⟨nb, c, rfl, rfl, hc1, hc2, hc3⟩ | ⟨A, e1, h0, hc3⟩
      ·have hrow : rowAt b.segs 0 = some ⟨g, n, l⟩ := by rw [hsegs]; rfl
       obtain ⟨p1, p2, p3⟩ := row_tot hr hb hl hn hrow
       have hxl : x.length = len := by rw [← he, List.length_take]; omega
       refine ⟨⟨some i, g, x, E⟩, (some nb, ⟨tn.tot, extOf [.r g x.length x]⟩), .inr ⟨i, nb, tn, b, n, l, rfl, Nat.le_of_ble_eq_true hm, rfl, hn, hb, hl, hsegs, hE, ?_, rfl, rfl⟩, rfl, fun j hj => ?_, fun S' ρ2 k hk => ?_⟩
       ·simp only; rw [← he]; exact take_len_self l len
       ·simp only [Option.some.injEq] at hj; subst hj
        exact ⟨_, _, _, _, _, rfl⟩
       ·refine ⟨some nb, _, hk, by simp [ext_row], fun d e => by simp at e, .inl ⟨nb, c, rfl, ?_, by omega, ?_, fun d e => by simp at e⟩⟩
        ·rw [hxl, hes]
        ·simp only; rw [← hes]; exact hc2
      ·have : x = [] := by rw [← he, h0]; simp
       exact nil A e1 this
     ·simp at he
    ·simp at he
   ·simp at he
  ·simp at he
 ·simp at he

theorem decAccs_ok (hr : Rel S ρ h w) {m : Nat} {sl : List AV} {a : Act} (hs : SlR S ρ sl a) : ∀ {l : List (Nat × Tag × TypeId)} {x : AC l}, decAccs h m sl l = some x →
  ∃ (ds : List AccD) (es : Rho), LR (AccOK ρ h m) ds es ∧ ds.map AccD.blk = accBlks l x ∧ (∀ (j : Nat) d i, ds[j]? = some d → d.i = some i → (rootsOf sl l)[j]? = some (some i)) ∧
   ∀ (S' : Stay) (ρ2 : Rho) (k0 : Nat) (sl2 : List AV), (∀ (j : Nat) e, es[j]? = some e → ρ2[k0 + j]? = some e) → SlR S' ρ2 sl2 a → SlR S' ρ2 (putAccs k0 l x sl2) a
 | [], x, he => ⟨[], [], trivial, rfl, fun j d i h => by simp at h, fun S' ρ2 k0 sl2 _ q => q⟩
 | p :: r, x, he => by
  simp only [decAccs, nth_eq] at he
  split at he
  ·rename_i v hv
   split at he
   ·rename_i y hy
    split at he
    ·rename_i z hz
     simp only [Option.some.injEq] at he; subst he
     obtain ⟨V, hVm, rV⟩ := hs.get hv
     obtain ⟨d, e, h1, h2, h3, h4⟩ := decAcc_ok hr hy rV
     obtain ⟨ds, es, g1, g2, g3, g4⟩ := decAccs_ok hr hs hz
     refine ⟨d :: ds, e :: es, ⟨h1, g1⟩, by simp [accBlks, h2, g2], fun j d' i hj hi => ?_, fun S' ρ2 k0 sl2 hρ q => ?_⟩
     ·cases j with
      | zero =>
       simp at hj; subst hj
       obtain ⟨base, es', st, len, cap, rfl⟩ := h3 i hi
       simp only [rootsOf, List.map_cons, List.getElem?_cons_zero, rootOf, nth_eq, hv]
      | succ j =>
       have := g3 j d' i (by simpa using hj) hi
       simpa [rootsOf] using this
     ·simp only [putAccs]
      refine g4 S' ρ2 (k0 + 1) _ (fun j e' he' => ?_) ?_
      ·have := hρ (j + 1) e' (by simpa using he')
       rw [← this]; congr 1; omega
      ·exact SlR.set_same q hVm (h4 S' ρ2 k0 (hρ 0 e rfl))
    ·simp at he
   ·simp at he
  ·simp at he
theorem decSlots_ok {ok : Nat → Bool} (hr : Rel S ρ h w) {S2 : Stay} {ρ2 : Rho} (hS : S.le S2) (hh : Held S2 ρ h w ok) {m : Nat} (hρ : ∀ (i : Nat) x, i < m → ρ[i]? = some x → ρ2[i]? = some x) {sl : List AV} {a : Act} (hs : SlR S ρ sl a) : ∀ {l : List (Nat × Shp)} {x : SL l}, decSlots h ok sl l = some x → (l.all fun p => p.2.low m) = true →
  ∀ (sl2 : List AV), SlR S2 ρ2 sl2 a → SlR S2 ρ2 (putSlots l x sl2) a
 | [], x, he, _, sl2, q => q
 | p :: r, x, he, hl, sl2, q => by
  simp only [List.all_cons, Bool.and_eq_true] at hl
  simp only [decSlots, nth_eq] at he
  split at he
  ·rename_i v hv
   split at he
   ·rename_i y hy
    split at he
    ·rename_i z hz
     simp only [Option.some.injEq] at he; subst he
     obtain ⟨V, hVm, rV⟩ := hs.get hv
     exact decSlots_ok hr hS hh hρ hs hz hl.2 _ (SlR.set_same q hVm (encS_low hl.1 hρ (decS_R hr hS hh hy rV)))
    ·simp at he
   ·simp at he
  ·simp at he
theorem distinctO_ok : ∀ {l : List (Option Nat)}, distinctO l = true → ∀ (j k : Nat) i, l[j]? = some (some i) → l[k]? = some (some i) → j = k
 | [], _, j, k, i, h, _ => by simp at h
 | none :: r, hd, j, k, i, hj, hk => by
  cases j with
  | zero => simp at hj
  | succ j => cases k with
   | zero => simp at hk
   | succ k => rw [distinctO_ok (l := r) hd j k i (by simpa using hj) (by simpa using hk)]
 | some x :: r, hd, j, k, i, hj, hk => by
  simp only [distinctO, Bool.and_eq_true, Bool.not_eq_true'] at hd
  have hno : ∀ (j : Nat), r[j]? = some (some x) → False := fun j hj => by
   have : r.contains (some x) = true := List.contains_iff_mem.2 (List.mem_of_getElem? hj)
   rw [hd.1] at this; simp at this
  cases j with
  | zero =>
   simp at hj; subst hj
   cases k with
   | zero => rfl
   | succ k => exact (hno k (by simpa using hk)).elim
  | succ j => cases k with
   | zero => simp at hk; subst hk; exact (hno j (by simpa using hj)).elim
   | succ k => rw [distinctO_ok hd.2 j k i (by simpa using hj) (by simpa using hk)]
theorem accBlks_length : ∀ (l : List (Nat × Tag × TypeId)) (x : AC l), (accBlks l x).length = l.length
 | [], _ => rfl
 | a :: r, x => by simp [accBlks, accBlks_length r x.2]
theorem encH_length (s : LSh) (x : LS s) : s.blks.length ≤ (encH s x).length := by
 simp [encH, hbBlks_length]

theorem canonL0 {s : LSh} (hlow : s.low = true) (hr : Rel S ρ h w) {sl : List AV} {a : Act} (hs : SlR S ρ sl a) {x : LS s} (he : decL0 s sl h = some x) :
  s.blks.length ≤ h.length ∧ (∀ (i : Nat) (b : Blk), i < s.blks.length → h[i]? = some b → b.ro = false) ∧ ∃ S2 ρ2, Rel S2 ρ2 (encH s x) w ∧ SlR S2 ρ2 (encF s x) a ∧ Frm s.blks.length S S2 ρ ρ2 w w := by
 unfold decL0 at he
 split at he
 ·rename_i hc
  obtain ⟨hn, hdis⟩ := hc
  split at he
  ·rename_i x1 hx1
   split at he
   ·rename_i x2 hx2
    split at he
    ·rename_i x3 hx3
     simp only [Option.some.injEq] at he; subst he
     simp only [LSh.low, Bool.and_eq_true] at hlow
     have hm : s.blks.length ≤ h.length := by
      have := decHB_len hx2 (Nat.zero_le _); omega
     obtain ⟨ds, es, g1, g2, g3, g4⟩ := decAccs_ok hr hs hx3
     have hbl := decHB_ok hr (m := s.blks.length) hx2 (by
      have := hlow.2
      rw [List.all_eq_true] at this ⊢
      intro b hb
      have := this b hb
      cases b <;> exact this)
     have hrec : ∀ (i : Nat) (b b' : Blk), h[i]? = some b → (hbBlks s.blks x2)[i]? = some b' → Recast S ρ h w (fun i => Nat.ble s.blks.length i && !((rootsOf sl s.accs).contains (some i))) s.blks.length b b' := by
      intro i b b' hb hb'
      obtain ⟨_, hlv⟩ := hbl i b b' (by rw [Nat.zero_add]; exact hb) hb'
      refine ⟨fun hl => (hlv hl).1, fun hl => ?_, fun hl hok => ?_, fun hl => ?_, fun hl g hg => ?_⟩
      ·obtain ⟨_, E, sh, y, rfl, hE, _⟩ := hlv hl
       exact hE.symm
      ·obtain ⟨_, E, sh, y, rfl, hE, hdec, _⟩ := hlv hl
       refine ⟨(decB_seg hdec hok).1, (decB_seg hdec hok).2, fun S2 hS2 hh L hL => ?_⟩
       exact (decB_R hr hS2 hh hdec hok).2.1 hL
      ·obtain ⟨_, E, sh, y, rfl, hE, hdec, hlo⟩ := hlv hl
       exact encB_low hlo
      ·obtain ⟨_, E, sh, y, rfl, hE, hdec, _⟩ := hlv hl
       rw [hg] at hdec
       exact decB_vir hdec
     obtain ⟨S2, hS2, hh, hr2, hf2⟩ := hr.settle hm (ok := fun i => Nat.ble s.blks.length i && !((rootsOf sl s.accs).contains (some i))) (hbBlks_length s.blks x2) hrec g1
      (fun j k a b ha hb hab hne => by
       obtain ⟨i, hi⟩ := Option.ne_none_iff_exists'.1 hne
       exact distinctO_ok hdis j k i (g3 j a i ha hi) (g3 k b i hb (hab ▸ hi)))
      (fun i hi => by
       simp only [Bool.and_eq_true, Bool.not_eq_true'] at hi
       refine ⟨Nat.le_of_ble_eq_true hi.1, fun d hd e => ?_⟩
       obtain ⟨j, hj⟩ := List.getElem?_of_mem hd
       have := List.mem_of_getElem? (g3 j d i hj e)
       rw [← List.contains_iff_mem] at this
       rw [this] at hi; simp at hi)
     have hml : (ρ.take s.blks.length).length = s.blks.length := by rw [List.length_take, hr.len]; omega
     refine ⟨hm, fun i b hi hb => ?_, S2, ρ.take s.blks.length ++ es, by rw [g2] at hr2; exact hr2, ?_, hf2⟩
     ·have hi' : i < (hbBlks s.blks x2).length := by rw [hbBlks_length]; exact hi
      exact (hbl i b _ (by rw [Nat.zero_add]; exact hb) (List.getElem?_eq_getElem hi')).1
     ·unfold encF
      refine g4 S2 _ s.blks.length _ (fun j e he => ?_) ?_
      ·rw [List.getElem?_append_right (by omega), hml, Nat.add_sub_cancel_left]; exact he
      ·refine decSlots_ok hr hS2 hh (m := s.blks.length) (fun i y hi hy => ?_) hs hx1 hlow.1 _ ?_
       ·rw [List.getElem?_append_left (by omega), List.getElem?_take_of_lt hi]; exact hy
       ·have hlen : a.tmps.toList.length = s.n := by rw [← hs.length]; exact hn
        unfold SlR
        rw [← hlen]
        generalize a.tmps.toList = L
        clear hlen
        induction L with
        | nil => trivial
        | cons V L ih => exact ⟨trivial, ih⟩
    ·simp at he
   ·simp at he
  ·simp at he
 ·simp at he
end

theorem decHB_ro {h : List Blk} {ok : Nat → Bool} : ∀ {l : List (Option (TypeId × List SegSh))} {i0 : Nat} {x : HB l}, decHB h ok l i0 = some x → ∀ (j : Nat) (b : Blk), j < l.length → h[i0 + j]? = some b → b.ro = false
 | [], i0, x, _, j, b, hj, _ => by simp at hj
 | none :: r, i0, x, he, j, b, hj, hb => by
  simp only [decHB, nth_eq] at he
  split at he
  ·rename_i c hc
   split at he
   ·rename_i hro
    cases j with
    | zero =>
     simp only [Nat.add_zero] at hb
     rw [hc] at hb; simp only [Option.some.injEq] at hb; subst hb; exact hro
    | succ j => exact decHB_ro he j b (by simpa using hj) (by rw [← hb]; congr 1; omega)
   ·simp at he
  ·simp at he
 | some a :: r, i0, x, he, j, b, hj, hb => by
  simp only [decHB, nth_eq] at he
  split at he
  ·rename_i c hc
   split at he
   ·rename_i hcond
    split at he
    ·split at he
     ·rename_i z hz
      cases j with
      | zero =>
       simp only [Nat.add_zero] at hb
       rw [hc] at hb; simp only [Option.some.injEq] at hb; subst hb; exact hcond.2.1
      | succ j => exact decHB_ro hz j b (by simpa using hj) (by rw [← hb]; congr 1; omega)
     ·simp at he
    ·simp at he
   ·simp at he
  ·simp at he
theorem roFree0 {s : LSh} {sl : List AV} {h : List Blk} {x : LS s} (he : decL0 s sl h = some x) (i : Nat) (b : Blk) (hi : i < s.blks.length) (hb : h[i]? = some b) : b.ro = false := by
 unfold decL0 at he
 split at he
 ·split at he
  ·split at he
   ·rename_i x2 hx2
    exact decHB_ro hx2 i b hi (by rw [Nat.zero_add]; exact hb)
   ·simp at he
  ·simp at he
 ·simp at he

/-! ### Known loops -/
theorem LR_get2 {R : AV → Value → Prop} : ∀ {l : List AV} {L : List Value}, LR R l L → ∀ {d : Nat} {v : AV}, l[d]? = some v → ∃ V, L[d]? = some V ∧ R v V
 | [], L, _, d, v, hv => by simp at hv
 | a :: l, [], r, _, _, _ => r.elim
 | a :: l, V :: L, r, 0, v, hv => by simp only [List.getElem?_cons_zero, Option.some.injEq] at hv; subst hv; exact ⟨V, rfl, r.1⟩
 | a :: l, V :: L, r, d + 1, v, hv => by
  obtain ⟨W, h1, h2⟩ := LR_get2 r.2 (d := d) (v := v) (by simpa using hv)
  exact ⟨W, by simpa using h1, h2⟩
theorem mvGo_ok {S : Stay} {w : World} {a : Act} {m : Nat} : ∀ (l : List (Nat × Tag × TypeId)) {ρ : Rho} {h : List Blk} {sl : List AV}, Rel S ρ h w → SlR S ρ sl a → m ≤ h.length →
  ∃ ρ', Rel S ρ' (mvGo m l sl h).2 w ∧ SlR S ρ' (mvGo m l sl h).1 a ∧ Frm m S S ρ ρ' w w ∧ ∀ (i : Nat) (b : Blk), i < m → h[i]? = some b → ∃ b', (mvGo m l sl h).2[i]? = some b' ∧ b'.ro = b.ro
 | [], ρ, h, sl, hr, hs, hm => ⟨ρ, hr, hs, Frm.refl _ _ _ _, fun i b _ hb => ⟨b, hb, rfl⟩⟩
 | c :: r, ρ, h, sl, hr, hs, hm => by
  simp only [mvGo, nth_eq, setN_eq]
  split
  ·rename_i i base es st len cap hv
   split
   ·split
    ·rename_i b hb
     have hi : i < ρ.length := by rw [hr.len]; exact lt_of_get hb
     have hx : ρ[i]? = some ρ[i] := List.getElem?_eq_getElem hi
     have hr2 := hr.move hb hx
     obtain ⟨V, hV, rV⟩ := LR_get2 hs hv
     have hs2 : SlR S (ρ ++ [ρ[i]]) (sl.set c.1 (.one (.c (.r h.length base es st len cap)))) a := by
      have h3 : SlR S (ρ ++ [ρ[i]]) sl a := LR.mono hs fun _ _ => AV.R.ext _
      have := h3.set_same hV (v := .one (.c (.r h.length base es st len cap))) (by rw [← hr.len]; exact r_move hx rV)
      rw [setN_eq] at this
      exact this
     obtain ⟨ρ', g1, g2, g3, g4⟩ := mvGo_ok (m := m) r hr2 hs2 (by rw [List.length_append, List.length_set]; omega)
     refine ⟨ρ', g1, g2, Frm.trans (frm_move (by rw [hr.len]; exact hm) hx) g3, fun j bj hj hbj => ?_⟩
     have hjl : j < h.length := lt_of_get hbj
     by_cases e : i = j
     ·subst e
      rw [hb] at hbj; simp only [Option.some.injEq] at hbj; subst hbj
      obtain ⟨b', q1, q2⟩ := g4 i { b with live := false } hj (by rw [List.getElem?_append_left (by rw [List.length_set]; exact hjl), List.getElem?_set]; simp [hjl])
      exact ⟨b', q1, q2⟩
     ·exact g4 j bj hj (by rw [List.getElem?_append_left (by rw [List.length_set]; exact hjl), List.getElem?_set, if_neg e]; exact hbj)
    ·exact mvGo_ok r hr hs hm
   ·exact mvGo_ok r hr hs hm
  ·exact mvGo_ok r hr hs hm
theorem mvA_ok {S : Stay} {w : World} {a : Act} {m : Nat} (l : List (Nat × Tag × TypeId)) {ρ : Rho} {h : List Blk} {sl : List AV} (hr : Rel S ρ h w) (hs : SlR S ρ sl a) :
  ∃ ρ', Rel S ρ' (mvA m l sl h).2 w ∧ SlR S ρ' (mvA m l sl h).1 a ∧ Frm m S S ρ ρ' w w := by
 unfold mvA
 split
 ·rename_i q
  obtain ⟨ρ', g1, g2, g3, _⟩ := mvGo_ok l hr hs (Nat.le_of_ble_eq_true q)
  exact ⟨ρ', g1, g2, g3⟩
 ·exact ⟨ρ, hr, hs, Frm.refl _ _ _ _⟩
theorem mvGo_ro {m : Nat} : ∀ (l : List (Nat × Tag × TypeId)) {h : List Blk} {sl : List AV} (i : Nat) (b : Blk), h[i]? = some b → ∃ b', (mvGo m l sl h).2[i]? = some b' ∧ b'.ro = b.ro
 | [], h, sl, i, b, hb => ⟨b, hb, rfl⟩
 | c :: r, h, sl, j, bj, hbj => by
  simp only [mvGo, nth_eq, setN_eq]
  split
  ·rename_i i base es st len cap hv
   split
   ·split
    ·rename_i b hb
     have hjl : j < h.length := lt_of_get hbj
     by_cases e : i = j
     ·subst e
      rw [hb] at hbj; simp only [Option.some.injEq] at hbj; subst hbj
      obtain ⟨b', q1, q2⟩ := mvGo_ro r (sl := sl.set c.1 (.one (.c (.r h.length base es st len cap)))) (h := h.set i { b with live := false } ++ [b]) i { b with live := false } (by rw [List.getElem?_append_left (by rw [List.length_set]; exact hjl), List.getElem?_set]; simp [hjl])
      exact ⟨b', q1, q2⟩
     ·exact mvGo_ro r j bj (by rw [List.getElem?_append_left (by rw [List.length_set]; exact hjl), List.getElem?_set, if_neg e]; exact hbj)
    ·exact mvGo_ro r j bj hbj
   ·exact mvGo_ro r j bj hbj
  ·exact mvGo_ro r j bj hbj
theorem mvGo_len {m : Nat} : ∀ (l : List (Nat × Tag × TypeId)) {h : List Blk} {sl : List AV}, h.length ≤ (mvGo m l sl h).2.length
 | [], h, sl => Nat.le_refl _
 | c :: r, h, sl => by
  simp only [mvGo, nth_eq, setN_eq]
  split
  ·split
   ·split
    ·refine Nat.le_trans ?_ (mvGo_len r)
     rw [List.length_append, List.length_set]; omega
    ·exact mvGo_len r
   ·exact mvGo_len r
  ·exact mvGo_len r
theorem roFree {s : LSh} {sl : List AV} {h : List Blk} {x : LS s} (he : decL s sl h = some x) (i : Nat) (b : Blk) (hi : i < s.blks.length) (hb : h[i]? = some b) : b.ro = false := by
 have key : ∃ b', (mvA s.blks.length s.accs sl h).2[i]? = some b' ∧ b'.ro = b.ro := by
  unfold mvA
  split
  ·exact mvGo_ro _ i b hb
  ·exact ⟨b, hb, rfl⟩
 obtain ⟨b', h1, h2⟩ := key
 rw [← h2]
 exact roFree0 he i b' hi h1
theorem canonL {S : Stay} {w : World} {ρ : Rho} {h : List Blk} {s : LSh} (hlow : s.low = true) (hr : Rel S ρ h w) {sl : List AV} {a : Act} (hs : SlR S ρ sl a) {x : LS s} (he : decL s sl h = some x) :
  s.blks.length ≤ h.length ∧ (∀ (i : Nat) (b : Blk), i < s.blks.length → h[i]? = some b → b.ro = false) ∧ ∃ S2 ρ2, Rel S2 ρ2 (encH s x) w ∧ SlR S2 ρ2 (encF s x) a ∧ Frm s.blks.length S S2 ρ ρ2 w w := by
 obtain ⟨ρ', g1, g2, g3⟩ := mvA_ok (m := s.blks.length) s.accs hr hs
 obtain ⟨c1, _, S2, ρ2, c3, c4, c5⟩ := canonL0 hlow g1 g2 he
 have hm : s.blks.length ≤ h.length := by
  unfold mvA at c1
  split at c1
  ·rename_i q; exact Nat.le_of_ble_eq_true q
  ·exact c1
 exact ⟨hm, fun i b hi hb => roFree he i b hi hb, S2, ρ2, c3, c4, Frm.trans g3 c5⟩

@[reducible] def XS : List (Ex × LSh) → Type
 | [] => Empty
 | [a] => LS a.2
 | a :: b :: r => LS a.2 ⊕ XS (b :: r)
def exEq : Ex → Ex → Bool
 | .normal, .normal => true
 | .exit i, .exit j => decide (i = j)
 | .ret, .ret => true
 | _, _ => false
theorem exEq_eq {a b : Ex} (h : exEq a b = true) : a = b := by
 cases a <;> cases b <;> simp [exEq] at h
 ·rfl
 ·rw [h]
 ·rfl
noncomputable def decX : (xs : List (Ex × LSh)) → Ex → List AV → List Blk → Option (XS xs)
 | [], _, _, _ => none
 | [a], e, sl, h => if exEq a.1 e = true then decL a.2 sl h else none
 | a :: b :: r, e, sl, h => if exEq a.1 e = true then match decL a.2 sl h with
   | some x => some (.inl x)
   | none => none
  else match decX (b :: r) e sl h with
   | some x => some (.inr x)
   | none => none
noncomputable def elimX {R : Type} : (xs : List (Ex × LSh)) → XS xs → (Ex → List AV → List Blk → Option R) → Option R
 | [], x, _ => nomatch x
 | [a], x, k => k a.1 (encF a.2 x) (encH a.2 x)
 | a :: b :: r, x, k => match x with
  | .inl y => k a.1 (encF a.2 y) (encH a.2 y)
  | .inr y => elimX (b :: r) y k
theorem elimX_ok {R : Type} : ∀ {xs : List (Ex × LSh)} {y : XS xs} {k : Ex → List AV → List Blk → Option R} {r : R}, elimX xs y k = some r → ∃ (e : Ex) (s : LSh) (x : LS s), (e, s) ∈ xs ∧ k e (encF s x) (encH s x) = some r ∧ ∀ e' sl h, decX xs e' sl h = some y → e' = e ∧ decL s sl h = some x
 | [a], y, k, r, he => by
  refine ⟨a.1, a.2, y, by simp, he, fun e' sl h hd => ?_⟩
  simp only [decX] at hd
  split at hd
  ·rename_i e; exact ⟨(exEq_eq e).symm, hd⟩
  ·simp at hd
 | a :: b :: q, y, k, r, he => by
  cases y with
  | inl y =>
   refine ⟨a.1, a.2, y, by simp, he, fun e' sl h hd => ?_⟩
   simp only [decX] at hd
   split at hd
   ·rename_i e
    split at hd
    ·rename_i x hx
     simp at hd; subst hd
     exact ⟨(exEq_eq e).symm, hx⟩
    ·simp at hd
   ·split at hd <;> simp at hd
  | inr y =>
   obtain ⟨e, s, x, h1, h2, h3⟩ := elimX_ok (xs := b :: q) (y := y) he
   refine ⟨e, s, x, by simp at h1 ⊢; exact .inr h1, h2, fun e' sl h hd => ?_⟩
   simp only [decX] at hd
   split at hd
   ·split at hd <;> simp at hd
   ·split at hd
    ·rename_i x' hx'
     simp at hd; subst hd
     exact h3 e' sl h hx'
    ·simp at hd
structure LKn (P : Program) where
 g : FuncId
 id : Nat
 m1 : Nat
 lo : {R : Type} → List AV → List Blk → KC R → Option R
 fit : List AV → List Blk → Bool
 ok : ∀ {R : Type} (fn : Func) (c0 b : Code) (m : Nat), P.funcs[g]? = some fn → fn.body = some c0 → loopAt c0 id = some b → m ≤ m1 → ∀ (sl : List AV) (h : List Blk) (k : KC R) (r : R), lo sl h k = some r → Comes P m (.loop b) sl h k r
section
variable {P : Program}
def losL : List (LKn P) → {R : Type} → FuncId → Nat → Lo R
 | [], _, _, _, _, _, _, _ => none
 | x :: l, _, g, m, id, sl, h, k => if x.g = g ∧ x.id = id ∧ m ≤ x.m1 then (if x.fit sl h = true then some (x.lo sl h k) else losL l g m id sl h k) else losL l g m id sl h k
theorem losL_ok {R : Type} : ∀ (l : List (LKn P)), LosOK P (losL l (R := R))
 | [] => fun g fn c m hf hb j b hj sl h k r hm he => by simp [losL] at he
 | x :: l => fun g fn c m hf hb j b hj sl h k r hm he => by
  simp only [losL] at he
  split at he
  ·rename_i e
   obtain ⟨rfl, e2, e3⟩ := e
   split at he
   ·simp only [Option.some.injEq] at he
    rw [Nat.zero_add] at e2
    exact x.ok fn c b m hf hb (by rw [e2]; exact hj) e3 sl h k r he
   ·exact losL_ok l x.g fn c m hf hb j b hj sl h k r hm he
  ·exact losL_ok l g fn c m hf hb j b hj sl h k r hm he
theorem loopAt_in : ∀ (c : Code) (j i : Nat) (b b' : Code), loopAt c j = some b → loopAt b i = some b' → loopAt c (j + 1 + i) = some b' := by
 intro c
 induction c with
 | skip => intro j i b b' h; exact absurd h (by intro h; cases h)
 | region id ops draw => intro j i b b' h; exact absurd h (by intro h; cases h)
 | seq x y ihx ihy =>
  intro j i b b' h h2
  replace h : (if j < nloops x then loopAt x j else loopAt y (j - nloops x)) = some b := h
  show (if j + 1 + i < nloops x then loopAt x (j + 1 + i) else loopAt y (j + 1 + i - nloops x)) = some b'
  split at h
  ·have h3 := ihx _ _ _ _ h h2
   rw [if_pos (loopAt_lt _ _ _ h3)]; exact h3
  ·rename_i hn
   rw [if_neg (by omega)]
   have h3 := ihy _ _ _ _ h h2
   rw [show j + 1 + i - nloops x = j - nloops x + 1 + i by omega]; exact h3
 | cond c x y ihx ihy =>
  intro j i b b' h h2
  replace h : (if j < nloops x then loopAt x j else loopAt y (j - nloops x)) = some b := h
  show (if j + 1 + i < nloops x then loopAt x (j + 1 + i) else loopAt y (j + 1 + i - nloops x)) = some b'
  split at h
  ·have h3 := ihx _ _ _ _ h h2
   rw [if_pos (loopAt_lt _ _ _ h3)]; exact h3
  ·rename_i hn
   rw [if_neg (by omega)]
   have h3 := ihy _ _ _ _ h h2
   rw [show j + 1 + i - nloops x = j - nloops x + 1 + i by omega]; exact h3
 | block id c ih => intro j i b b' h h2; exact ih j i b b' h h2
 | loop c ih =>
  intro j i b b' h h2
  cases j with
  | zero =>
   have : some c = some b := h
   simp at this; subst this
   show loopAt (.loop c) (0 + 1 + i) = some b'
   rw [show 0 + 1 + i = i + 1 by omega]
   exact h2
  | succ j =>
   have h3 := ih j i b b' h h2
   rw [show j + 1 + 1 + i = (j + 1 + i) + 1 by omega]
   exact h3
 | scope c ih => intro j i b b' h h2; exact ih j i b b' h h2
 | _ => intro j i b b' h; exact absurd h (by intro h; cases h)

noncomputable def stepL (P : Program) (tbl : FuncId → Option Func) (ks : List (Kn P)) (ls : List (LKn P)) (n d : Nat) (g : FuncId) (id : Nat) (b : Code) (s : LSh) (xs : List (Ex × LSh)) (x : LS s) : Option (LS s ⊕ XS xs) :=
 evCode P (evCall P tbl (orcL ks) (losL ls) n d) (losL ls g s.blks.length) n b (id + 1) (encF s x) (encH s x) fun e sl h => match e with
  | .normal => (match decL s sl h with
   | some y => some (.inl y)
   | none => none)
  | .exit i => (match decX xs (.exit i) sl h with
   | some y => some (.inr y)
   | none => none)
  | .ret => (match decX xs .ret sl h with
   | some y => some (.inr y)
   | none => none)
def LoopOK (P : Program) (g : FuncId) (id : Nat) (s : LSh) (xs : List (Ex × LSh)) (f : LS s → Option (XS xs)) : Prop :=
 ∀ (fn : Func) (c0 b : Code), P.funcs[g]? = some fn → fn.body = some c0 → loopAt c0 id = some b → ∀ x y, f x = some y → ∀ (e : Ex) (s' : LSh) (x' : LS s'), (e, s') ∈ xs → (∀ e' sl h, decX xs e' sl h = some y → e' = e ∧ decL s' sl h = some x') →
  ∀ (S : Stay) (ρ : Rho) (w : World) (a : Act), Rel S ρ (encH s x) w → SlR S ρ (encF s x) a → (Code.loop b).wp P (Post s.blks.length S ρ w a.defers e (encF s' x') (encH s' x')) a w
theorem loop_ok {tbl : FuncId → Option Func} (ht : TblOK P tbl) {ks : List (Kn P)} {ls : List (LKn P)} {n d : Nat} {g : FuncId} {id : Nat} {b : Code} {s : LSh} {xs : List (Ex × LSh)} (hl : s.low = true) (hx : ∀ e s', (e, s') ∈ xs → s'.low = true ∧ s.blks.length ≤ s'.blks.length)
  (hb : ∀ fn c0 b', P.funcs[g]? = some fn → fn.body = some c0 → loopAt c0 id = some b' → b' = b) : LoopOK P g id s xs (iterU (stepL P tbl ks ls n d g id b s xs)) := by
 intro fn c0 b' hf hbody hloop x y hy
 obtain rfl := hb fn c0 b' hf hbody hloop
 obtain ⟨N, hN⟩ := iterU_some hy
 have hlo : LoOK P s.blks.length b' (losL ls (R := LS s ⊕ XS xs) g s.blks.length) (id + 1) := fun j b2 hj sl h k r hm he => by
  have := losL_ok ls g fn c0 s.blks.length hf hbody (id + 1 + j) b2 (loopAt_in c0 id j b' b2 hloop hj) sl h k r hm (by rw [Nat.zero_add]; exact he)
  exact this
 have hcode := evCode_ok (P := P) (evCall_ok ht (orcL_ok ks) (losL_ok ls) n d) n b' (id + 1) hlo
 have key : ∀ (N : Nat) (x : LS s), iterN (stepL P tbl ks ls n d g id b' s xs) N x = some y → ∀ (e : Ex) (s' : LSh) (x' : LS s'), (e, s') ∈ xs → (∀ e' sl h, decX xs e' sl h = some y → e' = e ∧ decL s' sl h = some x') →
   ∀ (S : Stay) (ρ : Rho) (w : World) (a : Act), Rel S ρ (encH s x) w → SlR S ρ (encF s x) a → ∀ (Q : Exit → Act → World → Prop), (∀ e' a' w', Post s.blks.length S ρ w a.defers e (encF s' x') (encH s' x') e' a' w' → Q e' a' w') → Code.rounds P b' Q N a w := by
  intro N
  induction N with
  | zero => intro x h; simp [iterN] at h
  | succ N ih =>
   intro x h e s' x' hmem hdec S ρ w a hr hs Q hQ
   simp only [iterN] at h
   have leave : ∀ (e0 : Ex) (sl1 : List AV) (h1 : List Blk), e0 ≠ .normal → decX xs e0 sl1 h1 = some y → Goes P s.blks.length b' (encF s x) (encH s x) e0 sl1 h1 → Code.rounds P b' Q (N + 1) a w := by
    intro e0 sl1 h1 hne hd hgo
    obtain ⟨rfl, hd2⟩ := hdec e0 sl1 h1 hd
    obtain ⟨hlow', hle'⟩ := hx _ _ hmem
    rw [rounds_succ]
    refine Code.wp_mono ?_ (hgo S ρ w a hr hs)
    rintro e1 a' w' ⟨S', ρ', hex, hr', hs', hdf, hf'⟩
    obtain ⟨q0, q1, S2, ρ2, hr2, hs2, hf2⟩ := canonL hlow' hr' hs' hd2
    have hfin : Post s.blks.length S ρ w a.defers e0 (encF s' x') (encH s' x') e1 a' w' := ⟨S2, ρ2, hex, hr2, hs2, hdf, hf'.trans (Frm.weaken hf2 hle' (by rw [hr'.len]; exact q0))⟩
    cases e0 with
    | normal => exact (hne rfl).elim
    | exit i => simp only [ExR] at hex; subst hex; exact hQ _ _ _ hfin
    | ret => simp only [ExR] at hex; subst hex; exact hQ _ _ _ hfin
   split at h
   ·rename_i x1 hstep
    unfold stepL at hstep
    obtain ⟨ex, sl1, h1, hk, _, _, hgo⟩ := hcode _ _ _ _ (encH_length s x) hstep
    cases ex with
    | normal =>
     simp only at hk
     split at hk
     ·rename_i y1 hy1
      simp only [Option.some.injEq, Sum.inl.injEq] at hk
      subst hk
      rw [rounds_succ]
      refine Code.wp_mono ?_ (hgo S ρ w a hr hs)
      rintro e1 a' w' ⟨S', ρ', rfl, hr', hs', hdf, hf'⟩
      obtain ⟨q0, q1, S2, ρ2, hr2, hs2, hf2⟩ := canonL hl hr' hs' hy1
      refine ih y1 h e s' x' hmem hdec S2 ρ2 w' a' hr2 hs2 Q fun e2 a2 w2 hp => hQ _ _ _ ?_
      rw [hdf] at hp
      exact (hp.frm hf2).frm hf'
     ·simp at hk
    | exit i => simp only at hk; split at hk <;> simp at hk
    | ret => simp only at hk; split at hk <;> simp at hk
   ·rename_i y1 hstep
    simp only [Option.some.injEq] at h; subst h
    unfold stepL at hstep
    obtain ⟨ex, sl1, h1, hk, _, _, hgo⟩ := hcode _ _ _ _ (encH_length s x) hstep
    cases ex with
    | normal => simp only at hk; split at hk <;> simp at hk
    | exit i =>
     simp only at hk
     split at hk
     ·rename_i z hz
      simp only [Option.some.injEq, Sum.inr.injEq] at hk; subst hk
      exact leave _ sl1 h1 (by simp) hz hgo
     ·simp at hk
    | ret =>
     simp only at hk
     split at hk
     ·rename_i z hz
      simp only [Option.some.injEq, Sum.inr.injEq] at hk; subst hk
      exact leave _ sl1 h1 (by simp) hz hgo
     ·simp at hk
   ·simp at h
 intro e s' x' hmem hdec S ρ w a hr hs
 exact wp_loop_rounds N (key N x hN e s' x' hmem hdec S ρ w a hr hs _ fun _ _ _ hp => hp)
noncomputable def lkn (g : FuncId) (id : Nat) (s : LSh) (xs : List (Ex × LSh)) (f : LS s → Option (XS xs)) (hf : LoopOK P g id s xs f) (hl : s.low = true) (hx : ∀ e s', (e, s') ∈ xs → s'.low = true ∧ s.blks.length ≤ s'.blks.length) : LKn P where
 g := g
 id := id
 m1 := s.blks.length
 fit sl h := (decL s sl h).isSome
 lo sl h k := match decL s sl h with
  | some x => (f x).bind fun y => elimX xs y k
  | none => none
 ok fn c0 b m hfn hbody hloop hm sl h k r he := by
  split at he
  ·rename_i x hx1
   obtain ⟨y, hy, hk⟩ := Option.bind_eq_some_iff.1 he
   obtain ⟨e, s', x', hmem, hk', hdec⟩ := elimX_ok hk
   obtain ⟨hlow', hle'⟩ := hx _ _ hmem
   refine ⟨e, _, _, hk', ?_, Nat.le_trans hm (Nat.le_trans hle' (encH_length s' x')), fun S ρ w a hr hs => ?_⟩
   ·intro i c hi hc hro
    exfalso
    have := roFree hx1 i c (by omega) hc
    rw [this] at hro; simp at hro
   ·obtain ⟨q0, q1, S2, ρ2, hr2, hs2, hf2⟩ := canonL hl hr hs hx1
    refine Code.wp_mono ?_ (hf fn c0 b hfn hbody hloop x y hy e s' x' hmem hdec S2 ρ2 w a hr2 hs2)
    intro e1 a' w' hp
    obtain ⟨S', ρ', h1, h2, h3, h4, h5⟩ := Post.frm hf2 hp
    exact ⟨S', ρ', h1, h2, h3, h4, Frm.weaken h5 hm (by rw [hr.len]; exact q0)⟩
  ·simp at he
end
end

end Go.Ew
