/- Functions of the program as plain Lean, and what they come to. Conditions: none. -/
import Derived.Test.YtmhkjafcfpgikaaGreatEwD
import Derived.Test.YtmhkjafcfpgikaaGreatPureG
import Derived.Test.YtmhkjafcfpgikaaGreatPureD
open Go Go.Ew
namespace Go.Proofs.YtmhkjafcfpgikaaGreat.E
set_option linter.unusedVariables false
set_option linter.unusedSimpArgs false
set_option maxRecDepth 100000
def tailS (t:St) (p:Int):St:=if (cycS t).2=true then t else endOf t p
def St.m0 (s:St):St:={ s with mode:=0 }
theorem m0_ok {s:St} (h:sok s):sok s.m0:=⟨h.r,h.op,h.step,h.lo,h.hi⟩
theorem fet_ok {s:St} (h:sok s) {d:Int} (hd:byte d):sok (fetS s d):=by
 refine ⟨?_,hd,⟨by show (0:Int)≤1;decide,by show (1:Int)≤255;decide⟩,h.lo,h.hi⟩
 show rok (if s.bug=true then s.r else _)
 split
 ·exact h.r
 ·exact setPC_ok h.r (word_mod _)
theorem mov_ok {s:St} (h:sok s) (m:Int×Int×Int) {d:Int} (hd:byte d):sok (movS s m d):=by
 refine ⟨?_,h.op,⟨?_,?_⟩,?_,?_⟩
 ·show rok (plR s m.2.1)
  unfold plR
  split
  ·exact setPC_ok h.r (word_mod _)
  split
  ·exact putP_ok h.r 2 (word_mod _)
  split
  ·exact putP_ok h.r 2 (word_mod _)
  split
  ·exact setSP_ok h.r (word_mod _)
  split
  ·exact setSP_ok h.r (word_mod _)
  ·exact h.r
 ·show 0≤(s.step+1)%256;omega
 ·show (s.step+1)%256≤255;omega
 ·show byte (if _ then d else s.lo)
  split
  ·exact hd
  ·exact h.lo
 ·show byte (if _ then d else s.hi)
  split
  ·exact hd
  ·exact h.hi
def scdS (s:St) (d:Int):St:={ s with r:=setPC s.r ((pcR s.r+1)%65536),op:=d,cb:=true,step:=2 }
theorem scd_ok {s:St} (h:sok s) {d:Int} (hd:byte d):sok (scdS s d):=
 ⟨setPC_ok h.r (word_mod _),hd,⟨by show (0:Int)≤2;decide,by show (2:Int)≤255;decide⟩,h.lo,h.hi⟩
def nextS (s:St) (d:Int):St:=if busyS s=false then fetS s d else if s.step=1∧(s.op=203∨s.cb=true) then scdS s d else movS s (cycS s).1 d
def doneS (s:St) (d p:Int):St:=if waitS s=true then s else if s.mode=4 then calS s else tailS (nextS s d).m0 (p%32)
theorem done_spec {s:St} (h:sok s) {d p:Int} (hd:byte d) (hp:byte p):cpu_Done.F (s.c,d,p,())=some ((doneS s d p).c,()):=by
 unfold cpu_Done.F cpu_Done.G doneS waitS
 dsimp +instances only [St.c]
 by_cases m1:s.mode=1
 ·rw [if_neg (by simp [m1]),if_pos (by simp [m1])]
 by_cases m2:s.mode=2
 ·rw [if_pos (by simp [m1]),if_neg (by simp [m2]),if_pos (by simp [m2])]
 by_cases m3:s.mode=3
 ·rw [if_pos (by simp [m1]),if_pos (by simp [m2]),if_pos (by simp [m3]),if_pos (by simp [m3])]
 by_cases m4:s.mode=4
 ·rw [if_pos (by simp [m1]),if_pos (by simp [m2]),if_neg (by simp [m3]),if_pos (by simp [m4])]
  refine (bind_eq (called_spec h)).trans ?_
  rw [if_neg (show ¬decide (s.mode=1∨s.mode=2∨s.mode=3)=true by simp [m1,m2,m3]),if_pos m4]
  rfl
 rw [if_pos (by simp [m1]),if_pos (by simp [m2]),if_neg (by simp [m3]),if_neg (by simp [m4])]
 refine (bind_eq (busy_spec h)).trans ?_
 rw [if_neg (show ¬decide (s.mode=1∨s.mode=2∨s.mode=3)=true by simp [m1,m2,m3]),if_neg m4,and31 hp]
 dsimp only
 unfold tailS
 cases hb:busyS s with
 | false =>
  rw [show nextS s d=fetS s d by unfold nextS;rw [if_pos hb]]
  simp only [Bool.not_false,↓reduceIte]
  refine (bind_eq (fetched_spec s d)).trans ?_
  refine (bind_eq (cycle_spec (s:=(fetS s d).m0) (m0_ok (fet_ok h hd)))).trans ?_
  dsimp only
  cases hc:(cycS (fetS s d).m0).2 with
  | false=>
   simp only [Bool.not_false,Bool.false_eq_true,↓reduceIte]
   refine (bind_eq (end_spec (s:=(fetS s d).m0) (m0_ok (fet_ok h hd)) _)).trans ?_
   rfl
  | true=>
   simp only [Bool.not_true,Bool.false_eq_true,↓reduceIte]
   rfl
 | true =>
  simp only [Bool.not_true,Bool.false_eq_true,↓reduceIte]
  refine (bind_eq (fetches_spec s)).trans ?_
  dsimp only
  by_cases q:s.step=1∧(s.op=203∨s.cb=true)
  ·rw [if_pos (decide_eq_true q),show nextS s d=scdS s d by unfold nextS;rw [if_neg (by rw [hb];decide),if_pos q]]
   refine (bind_eq (cycle_spec (s:=(scdS s d).m0) (m0_ok (scd_ok h hd)))).trans ?_
   dsimp only
   cases hc:(cycS (scdS s d).m0).2 with
   | false=>
    simp only [Bool.not_false,Bool.false_eq_true,↓reduceIte]
    refine (bind_eq (end_spec (s:=(scdS s d).m0) (m0_ok (scd_ok h hd)) _)).trans ?_
    rfl
   | true=>
    simp only [Bool.not_true,Bool.false_eq_true,↓reduceIte]
    rfl
  ·rw [if_neg (by simpa using q),show nextS s d=movS s (cycS s).1 d by unfold nextS;rw [if_neg (by rw [hb];decide),if_neg q]]
   refine (bind_eq (moved_spec h d)).trans ?_
   refine (bind_eq (cycle_spec (s:=(movS s (cycS s).1 d).m0) (m0_ok (mov_ok h _ hd)))).trans ?_
   dsimp only
   cases hc:(cycS (movS s (cycS s).1 d).m0).2 with
   | false=>
    simp only [Bool.not_false,Bool.false_eq_true,↓reduceIte]
    refine (bind_eq (end_spec (s:=(movS s (cycS s).1 d).m0) (m0_ok (mov_ok h _ hd)) _)).trans ?_
    rfl
   | true=>
    simp only [Bool.not_true,Bool.false_eq_true,↓reduceIte]
    rfl
end Go.Proofs.YtmhkjafcfpgikaaGreat.E
