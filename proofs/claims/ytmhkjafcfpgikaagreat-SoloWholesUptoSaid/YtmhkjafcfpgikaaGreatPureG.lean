/- Functions of the program as plain Lean, and what they come to. Conditions: none. -/
import Derived.Test.YtmhkjafcfpgikaaGreatEwD
import Derived.Test.YtmhkjafcfpgikaaGreatPureF
import Derived.Test.YtmhkjafcfpgikaaGreatPureM
open Go Go.Ew
namespace Go.Proofs.YtmhkjafcfpgikaaGreat.E
open Go.IntKind (wrap)
set_option linter.unusedVariables false
set_option linter.unusedSimpArgs false
set_option maxRecDepth 100000
def St.z (s:St):St:={ s with cb:=false,step:=0 }
def endOf (s:St) (p:Int):St:=endS s.z s.f.1 s.f.2.1.toNat s.f.2.2.1.toNat p
theorem end_spec {s:St} (h:sok s) (p:Int):cpu_core_end.F (p,()) s.b=some ((),(endOf s p).b):=by
 have fk:=fok_of h
 unfold endOf St.z
 rcases hf:s.f with ⟨k,x,y,u,v,w⟩
 rw [hf] at fk
 have a:=fk.k0;have b:=fk.k1;have c:=fk.x0;have d:=fk.x1;have e:=fk.y0;have f:=fk.y1;have g:=fk.p;have g2:=fk.q
 dsimp only at a b c d e f g g2
 obtain ⟨k,rfl⟩:=Int.eq_ofNat_of_zero_le a
 obtain ⟨x,rfl⟩:=Int.eq_ofNat_of_zero_le c
 obtain ⟨y,rfl⟩:=Int.eq_ofNat_of_zero_le e
 dsimp only
 rw [Int.toNat_natCast,Int.toNat_natCast]
 match k,b,g,g2,hf with
 | 0,_,g,g2,hf=>exact end0 h (by omega) (by omega) u v w p hf
 | 1,_,g,g2,hf=>exact end1 h (by omega) (by omega) u v w p hf
 | 2,_,g,g2,hf=>exact end2 h (by omega) (by omega) u v w p hf
 | 3,_,g,g2,hf=>exact end3 h (by omega) (by omega) u v w p hf
 | 4,_,g,g2,hf=>exact end4 h (by omega) (by omega) u v w p hf
 | 5,_,g,g2,hf=>exact end5 h (by omega) (by omega) u v w p hf
 | 6,_,g,g2,hf=>exact end6 h (by omega) (by omega) u v w p hf
 | 7,_,g,g2,hf=>exact end7 h (by omega) (by omega) u v w p hf
 | 8,_,g,g2,hf=>exact end8 h (by omega) (by omega) u v w p hf
 | 9,_,g,g2,hf=>exact end9 h (by omega) (by omega) u v w p hf
 | 10,_,g,g2,hf=>exact end10 h (by omega) (by omega) u v w p hf
 | 11,_,g,g2,hf=>exact end11 h (by omega) (by omega) u v w p hf
 | 12,_,g,g2,hf=>exact end12 h (by omega) (by omega) u v w p hf
 | 13,_,g,g2,hf=>exact end13 h (by omega) (by omega) u v w p hf
 | 14,_,g,g2,hf=>exact end14 h (by omega) (by omega) u v w p hf
 | 15,_,g,g2,hf=>exact end15 h (by omega) (by omega) u v w p hf
 | 16,_,g,g2,hf=>exact end16 h (by omega) (by omega) u v w p hf
 | 17,_,g,g2,hf=>exact end17 h (by omega) (by omega) u v w p hf
 | 18,_,g,g2,hf=>exact end18 h (by omega) (by omega) u v w p hf
 | 19,_,g,g2,hf=>exact end19 h (by omega) (by omega) u v w p hf
 | 20,_,g,g2,hf=>exact end20 h (by omega) (by omega) u v w p hf
 | 21,_,g,g2,hf=>exact end21 h (by omega) (by omega) u v w p hf
 | 22,_,g,g2,hf=>exact end22 h (by omega) (by omega) u v w p hf
 | 23,_,g,g2,hf=>exact end23 h (by omega) (by omega) u v w p hf
 | 24,_,g,g2,hf=>exact end24 h (by omega) (by omega) u v w p hf
 | 25,_,g,g2,hf=>exact end25 h (by omega) (by omega) u v w p hf
 | 26,_,g,g2,hf=>exact end26 h (by omega) (by omega) u v w p hf
 | 27,_,g,g2,hf=>exact end27 h (by omega) (by omega) u v w p hf
 | 28,_,g,g2,hf=>exact end28 h (by omega) (by omega) u v w p hf
 | 29,_,g,g2,hf=>exact end29 h (by omega) (by omega) u v w p hf
 | 30,_,g,g2,hf=>exact end30 h (by omega) (by omega) u v w p hf
 | 31,_,g,g2,hf=>exact end31 h (by omega) (by omega) u v w p hf
 | 32,_,g,g2,hf=>exact end32 h (by omega) (by omega) u v w p hf
 | 33,_,g,g2,hf=>exact end33 h (by omega) (by omega) u v w p hf
 | 34,_,g,g2,hf=>exact end34 h (by omega) (by omega) u v w p hf
 | 35,_,g,g2,hf=>exact end35 h (by omega) (by omega) u v w p hf
 | 36,_,g,g2,hf=>exact end36 h (by omega) (by omega) u v w p hf
 | 37,_,g,g2,hf=>exact end37 h (by omega) (by omega) u v w p hf
 | 38,_,g,g2,hf=>exact end38 h (by omega) (by omega) u v w p hf
 | 39,_,g,g2,hf=>exact end39 h (by omega) (by omega) u v w p hf
 | 40,_,g,g2,hf=>exact end40 h (by omega) (by omega) u v w p hf
 | 41,_,g,g2,hf=>exact end41 h (by omega) (by omega) u v w p hf
 | 42,_,g,g2,hf=>exact end42 h (by omega) (by omega) u v w p hf
 | 43,_,g,g2,hf=>exact end43 h (by omega) (by omega) u v w p hf
 | 44,_,g,g2,hf=>exact end44 h (by omega) (by omega) u v w p hf
 | 45,_,g,g2,hf=>exact end45 h (by omega) (by omega) u v w p hf
 | 46,_,g,g2,hf=>exact end46 h (by omega) (by omega) u v w p hf
 | n+47,b,_,_,_=>omega
def fetS (s:St) (d:Int):St:={ s with r:=if s.bug=true then s.r else setPC s.r ((pcR s.r+1)%65536),op:=d,cb:=false,bug:=false,step:=1 }
theorem fetched_spec (s:St) (d:Int):cpu_core_fetched.F (d,()) s.b=some ((),(fetS s d).b):=by
 unfold cpu_core_fetched.F cpu_core_fetched.G fetS
 dsimp +instances only [St.b]
 cases s.bug<;>rfl
def plR (s:St) (k:Int):R10:=if k=1 then setPC s.r ((pcR s.r+1)%65536) else if k=5 then (setp s 2 ((pairx s 2+1)%65536)).r else if k=6 then (setp s 2 ((pairx s 2 + -1)%65536)).r else if k=11 then setSP s.r ((spR s.r + -1)%65536) else if k=12 then setSP s.r ((spR s.r+1)%65536) else s.r
def movS (s:St) (m:Int×Int×Int) (d:Int):St:=
 { s with r:=plR s m.2.1,lo:=if m.1=1∧m.2.2≠2 then d else s.lo,hi:=if m.1=1∧m.2.2=2 then d else s.hi,step:=wrap .u8 (s.step+1) }
theorem moved_spec {s:St} (h:sok s) (d:Int):cpu_core_moved.F (d,()) s.b=some ((),(movS s (cycS s).1 d).b):=by
 unfold cpu_core_moved.F cpu_core_moved.G movS plR
 refine (bind_eq (cycle_spec h)).trans ?_
 dsimp only
 rcases (cycS s).1 with ⟨bus,pl,val⟩
 dsimp only
 by_cases p1:pl=1
 ·subst p1;simp only [Int.reduceBEq,Int.reduceEq,Bool.false_eq_true,↓reduceIte]
  by_cases b1:bus=1
  ·subst b1;by_cases v2:val=2
   ·subst v2;rfl
   ·simp only [v2,beq_iff_eq,↓reduceIte,not_false_eq_true,and_true,and_false,ne_eq];rfl
  ·simp only [b1,beq_iff_eq,↓reduceIte,false_and];rfl
 by_cases p5:pl=5
 ·subst p5;simp only [Int.reduceBEq,Int.reduceEq,Bool.false_eq_true,↓reduceIte]
  refine (bind_eq (pair_spec' h (n:=2) (by omega) (by omega))).trans ?_
  refine (bind_eq (setp_spec s (n:=2) (w:=(pairx s 2+1)%65536) (by omega) (by omega) (word_mod _))).trans ?_
  by_cases b1:bus=1
  ·subst b1;by_cases v2:val=2
   ·subst v2;rfl
   ·simp only [v2,beq_iff_eq,↓reduceIte,not_false_eq_true,and_true,and_false,ne_eq];rfl
  ·simp only [b1,beq_iff_eq,↓reduceIte,false_and];rfl
 by_cases p6:pl=6
 ·subst p6;simp only [Int.reduceBEq,Int.reduceEq,Bool.false_eq_true,↓reduceIte]
  refine (bind_eq (pair_spec' h (n:=2) (by omega) (by omega))).trans ?_
  refine (bind_eq (setp_spec s (n:=2) (w:=(pairx s 2 + -1)%65536) (by omega) (by omega) (word_mod _))).trans ?_
  by_cases b1:bus=1
  ·subst b1;by_cases v2:val=2
   ·subst v2;rfl
   ·simp only [v2,beq_iff_eq,↓reduceIte,not_false_eq_true,and_true,and_false,ne_eq];rfl
  ·simp only [b1,beq_iff_eq,↓reduceIte,false_and];rfl
 by_cases p11:pl=11
 ·subst p11;simp only [Int.reduceBEq,Int.reduceEq,Bool.false_eq_true,↓reduceIte]
  by_cases b1:bus=1
  ·subst b1;by_cases v2:val=2
   ·subst v2;rfl
   ·simp only [v2,beq_iff_eq,↓reduceIte,not_false_eq_true,and_true,and_false,ne_eq];rfl
  ·simp only [b1,beq_iff_eq,↓reduceIte,false_and];rfl
 by_cases p12:pl=12
 ·subst p12;simp only [Int.reduceBEq,Int.reduceEq,Bool.false_eq_true,↓reduceIte]
  by_cases b1:bus=1
  ·subst b1;by_cases v2:val=2
   ·subst v2;rfl
   ·simp only [v2,beq_iff_eq,↓reduceIte,not_false_eq_true,and_true,and_false,ne_eq];rfl
  ·simp only [b1,beq_iff_eq,↓reduceIte,false_and];rfl
 simp only [p1,p5,p6,p11,p12,beq_iff_eq,↓reduceIte]
 by_cases b1:bus=1
 ·subst b1;by_cases v2:val=2
  ·subst v2;rfl
  ·simp only [v2,beq_iff_eq,↓reduceIte,not_false_eq_true,and_true,and_false,ne_eq];rfl
 ·simp only [b1,beq_iff_eq,↓reduceIte,false_and];rfl
def calS (s:St):St:=
 if s.step=1 then { s with step:=2 } else if s.step=2∨s.step=3 then { s with r:=setSP s.r ((spR s.r + -1)%65536),step:=wrap .u8 (s.step+1) }
 else if s.step=4 then { s with r:=setPC s.r (if s.lo<5 then 64+8*s.lo else 0),mode:=0,step:=0 } else { s with ime:=false,arm:=false,step:=1 }
theorem called_spec {s:St} (h:sok s):cpu_core_called.F () s.b=some ((),(calS s).b):=by
 have l0:=h.lo.1
 have l1:=h.lo.2
 unfold cpu_core_called.F cpu_core_called.G calS
 dsimp +instances only [St.b]
 by_cases e1:s.step=1
 ·rw [if_pos (by simp [e1]),if_pos e1]
 by_cases e2:s.step=2
 ·rw [if_neg (by simp [e1]),if_pos (by simp [e2]),if_neg e1,if_pos (.inl e2)];rfl
 by_cases e3:s.step=3
 ·rw [if_neg (by simp [e1]),if_neg (by simp [e2]),if_pos (by simp [e3]),if_neg e1,if_pos (.inr e3)];rfl
 by_cases e4:s.step=4
 ·rw [if_neg (by simp [e1]),if_neg (by simp [e2]),if_neg (by simp [e3]),if_pos (by simp [e4]),if_neg e1,if_neg (show ¬(s.step=2∨s.step=3) by omega),if_pos e4,w64 (n:=s.lo) (by omega)]
  refine (bind_eq (vector_spec h.lo)).trans ?_
  rfl
 ·rw [if_neg (by simp [e1]),if_neg (by simp [e2]),if_neg (by simp [e3]),if_neg (by simp [e4]),if_neg e1,if_neg (show ¬(s.step=2∨s.step=3) by omega),if_neg e4]
end Go.Proofs.YtmhkjafcfpgikaaGreat.E
