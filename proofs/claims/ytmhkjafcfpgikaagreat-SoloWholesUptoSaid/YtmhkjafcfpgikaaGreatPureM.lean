/- Functions of the program as plain Lean, and what they come to. Conditions: none. -/
import Derived.Test.YtmhkjafcfpgikaaGreatEwD
import Derived.Test.YtmhkjafcfpgikaaGreatPureE
open Go Go.Ew
namespace Go.Proofs.YtmhkjafcfpgikaaGreat.E
set_option linter.unusedVariables false
set_option linter.unusedSimpArgs false
set_option maxRecDepth 100000
theorem form_fin:∀ op:Fin 256,∀ cb:Bool,((T.formS (op.val:Int) cb).1=17∨(T.formS (op.val:Int) cb).1=22∨(T.formS (op.val:Int) cb).1=21∨(T.formS (op.val:Int) cb).1=27∨(T.formS (op.val:Int) cb).1=28∨(T.formS (op.val:Int) cb).1=29→(T.formS (op.val:Int) cb).2.1<5)∧((T.formS (op.val:Int) cb).1=31→(T.formS (op.val:Int) cb).2.1<4):=by decide +kernel
structure fok (f:T.F6):Prop where
 k0:0≤f.1
 k1:f.1<47
 x0:0≤f.2.1
 x1:f.2.1<8
 y0:0≤f.2.2.1
 y1:f.2.2.1<8
 p:f.1=17∨f.1=22∨f.1=21∨f.1=27∨f.1=28∨f.1=29→f.2.1<5
 q:f.1=31→f.2.1<4
theorem fok_of {s:St} (h:sok s):fok s.f:=by
 have a:=h.op.1
 have b:=h.op.2
 have e:((s.op.toNat:Nat):Int)=s.op:=Int.toNat_of_nonneg a
 have g:=T.form_kind ⟨s.op.toNat,by omega⟩ s.cb
 have g':=form_fin ⟨s.op.toNat,by omega⟩ s.cb
 dsimp only at g g'
 rw [e] at g g'
 exact ⟨g.1,g.2.1,g.2.2.1,g.2.2.2.1,g.2.2.2.2.1,g.2.2.2.2.2.1,g'.1,g'.2⟩
theorem getD_mem {α:Type} {l:List α} {n:Nat} (h:n<l.length) (d:α):l.getD n d∈l:=by
 rw [List.getD_eq_getElem?_getD,List.getElem?_eq_getElem h]
 exact List.getElem_mem h
theorem and31_fin:∀ p:Fin 256,bits .and .u8 (p.val:Int) 31=(p.val:Int)%32:=by decide +kernel
theorem and31 {p:Int} (h:byte p):bits .and .u8 p 31=p%32:=by
 have a:=h.1
 have b:=h.2
 obtain ⟨m,rfl⟩:=Int.eq_ofNat_of_zero_le a
 exact and31_fin ⟨m,by omega⟩
theorem busy_fields {s:St} (hb:busyS s=true) (hm:s.mode≠4):s.step≠0∧s.step<lenS s:=by
 unfold busyS at hb
 split at hb
 ·simp at hb
 split at hb
 ·simp at hb
 ·rename_i e
  first | rw [if_neg hm] at hb | skip
  exact ⟨e,of_decide_eq_true hb⟩
end Go.Proofs.YtmhkjafcfpgikaaGreat.E
