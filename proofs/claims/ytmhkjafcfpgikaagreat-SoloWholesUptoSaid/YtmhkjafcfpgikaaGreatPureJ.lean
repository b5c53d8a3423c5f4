/- Functions of the program as plain Lean, and what they come to. Conditions: none. -/
import Derived.Test.YtmhkjafcfpgikaaGreatEwD
import Derived.Test.YtmhkjafcfpgikaaGreatPureM
import Derived.Test.YtmhkjafcfpgikaaGreatPureD
open Go Go.Ew
namespace Go.Proofs.YtmhkjafcfpgikaaGreat.E
open Go.IntKind (wrap)
set_option linter.unusedVariables false
set_option linter.unusedSimpArgs false
set_option maxRecDepth 100000
theorem first_spec {p:Int} (h:byte p):irq_First.F (p,())=some ((I.firstV p).1,(I.firstV p).2,()):=by
 show I.firstF (p,())=_
 unfold I.firstF
 exact if_pos h
theorem page_fin:∀ l:Fin 256,bits .or .u16 65280 (wrap .u16 (l.val:Int))=65280+(l.val:Int):=by decide +kernel
theorem page_or {l:Int} (h:byte l):bits .or .u16 65280 (wrap .u16 l)=65280+l:=by
 have a:=h.1
 have b:=h.2
 obtain ⟨m,rfl⟩:=Int.eq_ofNat_of_zero_le a
 exact page_fin ⟨m,by omega⟩
def atS (s:St) (k:Int):Int:=
 if k=1 then pcR s.r else if k=2∨k=5∨k=6 then pairx s 2 else if k=3 then pairx s 0 else if k=4 then pairx s 1 else if k=7 then 65280+s.lo
 else if k=8 then 65280+s.r.2.2.2.1 else if k=9 then farS s else if k=10 then (farS s+1)%65536 else if k=11 then (spR s.r + -1)%65536 else spR s.r
theorem at_spec {s:St} (h:sok s) {k:Int} (hk:1≤k∧k≤12):cpu_core_at.F (k,()) s.b=some (atS s k,()):=by
 unfold cpu_core_at.F cpu_core_at.G atS
 obtain rfl | rfl | rfl | rfl | rfl | rfl | rfl | rfl | rfl | rfl | rfl | rfl:k=1∨k=2∨k=3∨k=4∨k=5∨k=6∨k=7∨k=8∨k=9∨k=10∨k=11∨k=12:=by omega
 all_goals simp only [Int.reduceBEq,Int.reduceEq,Bool.false_eq_true,↓reduceIte,false_or,or_false,or_self]
 ·rfl
 ·exact bind_eq (pair_spec' h (n:=2) (by omega) (by omega))
 ·exact bind_eq (pair_spec' h (n:=0) (by omega) (by omega))
 ·exact bind_eq (pair_spec' h (n:=1) (by omega) (by omega))
 ·exact bind_eq (pair_spec' h (n:=2) (by omega) (by omega))
 ·exact bind_eq (pair_spec' h (n:=2) (by omega) (by omega))
 ·exact congrArg (fun w=>some (w,())) (page_or h.lo)
 ·exact congrArg (fun w=>some (w,())) (page_or h.r.c)
 ·exact congrArg (fun w=>some (w,())) (join16' h.hi h.lo)
 ·exact congrArg (fun w=>some (wrap .u16 (w+1),())) (join16' h.hi h.lo)
 ·rfl
 ·rfl
def valS (s:St) (v:Int):Int:=
 if v=1 then s.lo else if v=3 then s.r.1 else if v=4 then opnd s s.f.2.2.1 else if v=5 then spR s.r%256 else if v=6 then spR s.r / 256 else if v=7 then pcR s.r%256
 else if v=8 then pcR s.r / 256 else if v=10 then pairx s s.f.2.1 / 256 else if v=11 then pairx s s.f.2.1%256 else (altS s s.f.1 s.f.2.1.toNat s.f.2.2.1.toNat).1
theorem hi8 {w:Int} (h:word w):wrap .u8 (Int.fdiv w 256)=w / 256:=by
 have a:=h.1
 have b:=h.2
 rw [fdivN (by omega),w8 (by omega)]
theorem fx_eq {s:St} (h:sok s):∃ (k:Int) (x y:Nat) (u v w:Int),s.f=(k,(x:Int),(y:Int),u,v,w)∧x<8∧y<8:=by
 have fk:=fok_of h
 rcases hf:s.f with ⟨k,x,y,u,v,w⟩
 rw [hf] at fk
 have c:=fk.x0;have d:=fk.x1;have e:=fk.y0;have f:=fk.y1
 dsimp only at c d e f
 obtain ⟨x,rfl⟩:=Int.eq_ofNat_of_zero_le c
 obtain ⟨y,rfl⟩:=Int.eq_ofNat_of_zero_le e
 exact ⟨k,x,y,u,v,w,rfl,by omega,by omega⟩
theorem value_spec {s:St} (h:sok s) {v:Int} (hv:1≤v∧v≤11∧v≠2) (hp:v=10∨v=11→s.f.2.1<5):cpu_core_value.F (v,()) s.b=some (valS s v,()):=by
 have fk:=fok_of h
 have x0:=fk.x0;have y0:=fk.y0;have y1:=fk.y1
 unfold cpu_core_value.F cpu_core_value.G valS
 refine (bind_eq (form_spec h)).trans ?_
 obtain rfl | rfl | rfl | rfl | rfl | rfl | rfl | rfl | rfl | rfl:v=1∨v=3∨v=4∨v=5∨v=6∨v=7∨v=8∨v=9∨v=10∨v=11:=by omega
 all_goals simp only [Int.reduceBEq,Int.reduceEq,Bool.false_eq_true,↓reduceIte]
 ·rfl
 ·rfl
 ·exact bind_eq (operand_spec s y0 y1)
 ·rfl
 ·exact congrArg (fun w=>some (w,())) (hi8 h.r.sp)
 ·rfl
 ·exact congrArg (fun w=>some (w,())) (hi8 h.r.pc)
 ·obtain ⟨k,x,y,u,v,w,hf,hx,hy⟩:=fx_eq h
  rw [hf]
  exact bind_eq (alters_spec h hx hy k u v w)
 ·refine (bind_eq (pair_spec' h x0 (hp (.inl rfl)))).trans ?_
  exact congrArg (fun w=>some (w,())) (hi8 (pairx_ok h _))
 ·exact bind_eq (pair_spec' h x0 (hp (.inr rfl)))
def pvB (m:Int×Int×Int) (x:Int):Bool:=(!(m.1==1||m.1==2)||(decide (1≤m.2.1)&&decide (m.2.1≤12)))&&(!(m.1==2)||((decide (1≤m.2.2)&&decide (m.2.2≤11) && !(m.2.2==2))&&(!(m.2.2==10||m.2.2==11)||decide (x<5))))
theorem pvB_eq {m:Int×Int×Int} {x:Int} (h:pvB m x=true):(m.1=1∨m.1=2→1≤m.2.1∧m.2.1≤12)∧(m.1=2→(1≤m.2.2∧m.2.2≤11∧m.2.2≠2)∧(m.2.2=10∨m.2.2=11→x<5)):=by
 unfold pvB at h
 simp only [Bool.and_eq_true,Bool.or_eq_true,Bool.not_eq_true',Bool.or_eq_false_iff,beq_iff_eq,beq_eq_false_iff_ne,decide_eq_true_eq,ne_eq] at h
 omega
theorem plan_pv:∀ op:Fin 256,∀ cb t:Bool,(T.planS (T.formS (op.val:Int) cb).1 (T.formS (op.val:Int) cb).2.1 (T.formS (op.val:Int) cb).2.2.1 t).all (fun m=>pvB m (T.formS (op.val:Int) cb).2.1)=true:=by decide +kernel
theorem cyc_pv {s:St} (h:sok s):((cycS s).1.1=1∨(cycS s).1.1=2→1≤(cycS s).1.2.1∧(cycS s).1.2.1≤12)∧((cycS s).1.1=2→(1≤(cycS s).1.2.2∧(cycS s).1.2.2≤11∧(cycS s).1.2.2≠2)∧((cycS s).1.2.2=10∨(cycS s).1.2.2=11→s.f.2.1<5)):=by
 have a:=h.op.1
 have b:=h.op.2
 have e:((s.op.toNat:Nat):Int)=s.op:=Int.toNat_of_nonneg a
 have g:=plan_pv ⟨s.op.toNat,by omega⟩ s.cb (holdS s.r s.f.2.1)
 dsimp only at g
 rw [e] at g
 have z:∀ c:Bool,((((0,0,0),c):(Int×Int×Int)×Bool).1.1=1∨(((0,0,0),c):(Int×Int×Int)×Bool).1.1=2→1≤(((0,0,0),c):(Int×Int×Int)×Bool).1.2.1∧(((0,0,0),c):(Int×Int×Int)×Bool).1.2.1≤12)∧((((0,0,0),c):(Int×Int×Int)×Bool).1.1=2→(1≤(((0,0,0),c):(Int×Int×Int)×Bool).1.2.2∧(((0,0,0),c):(Int×Int×Int)×Bool).1.2.2≤11∧(((0,0,0),c):(Int×Int×Int)×Bool).1.2.2≠2)∧((((0,0,0),c):(Int×Int×Int)×Bool).1.2.2=10∨(((0,0,0),c):(Int×Int×Int)×Bool).1.2.2=11→s.f.2.1<5)):=by
  intro c;simp
 unfold cycS
 by_cases q1:s.op=203∧s.cb=false
 ·rw [if_pos q1];exact z _
 rw [if_neg q1]
 by_cases q2:s.cb=true∧s.step=1
 ·rw [if_pos q2];exact z _
 rw [if_neg q2]
 by_cases q3:0≤s.step - 1 - (if s.cb=true then 1 else 0)∧s.step - 1 - (if s.cb=true then 1 else 0)<(s.pl.length:Int)
 ·rw [if_pos q3]
  exact pvB_eq (List.all_eq_true.1 g _ (getD_mem (show _<s.pl.length by omega) _))
 ·rw [if_neg q3];exact z _
abbrev A3:=Int×Int×Int
def begS (s:St) (p:Int):St×A3:=if s.ime=true∧p≠0 then ({ s with mode:=4,step:=0 },(0,0,0)) else ({ s with mode:=0,step:=0,ime:=s.arm||s.ime,arm:=false },(1,pcR s.r,0))
theorem begin_spec (s:St) (p:Int):cpu_core_begin.F (p,()) s.b=some (((begS s p).2,()),(begS s p).1.b):=by
 unfold cpu_core_begin.F cpu_core_begin.G begS
 dsimp +instances only [St.b]
 cases e:s.ime<;>cases g:s.arm<;>by_cases q:p=0<;>simp [q,pcR]
def callS (s:St) (p:Int):St×A3×Int:=
 if s.step=2 then (s,(3,(spR s.r + -1)%65536,pcR s.r / 256), -1) else if s.step=3 then
  (if (I.firstV p).2=true then ({ s with lo:=wrap .u8 (I.firstV p).1 },(3,(spR s.r + -1)%65536,pcR s.r%256),(I.firstV p).1) else ({ s with lo:=5 },(3,(spR s.r + -1)%65536,pcR s.r%256), -1))
 else (s,(0,0,0), -1)
theorem calls_spec {s:St} (h:sok s) {p:Int} (hp:byte p):cpu_core_calls.F (p,()) s.b=some (((callS s p).2.1,(callS s p).2.2,()),(callS s p).1.b):=by
 unfold cpu_core_calls.F cpu_core_calls.G callS
 by_cases e2:s.step=2
 ·rw [if_pos e2]
  refine (if_pos (show (s.step==2)=true by simp [e2])).trans ?_
  refine (bind_eq (value_spec h (v:=8) ⟨by decide,by decide,by decide⟩ (by omega))).trans ?_
  rfl
 rw [if_neg e2]
 refine (if_neg (show ¬(s.step==2)=true by simp [e2])).trans ?_
 by_cases e3:s.step=3
 ·rw [if_pos e3]
  refine (if_pos (show (s.step==3)=true by simp [e3])).trans ?_
  refine (bind_eq (value_spec h (v:=7) ⟨by decide,by decide,by decide⟩ (by omega))).trans ?_
  refine (bind_eq (first_spec hp)).trans ?_
  dsimp only
  cases (I.firstV p).2 with
  | true=>simp only [Bool.not_true,Bool.false_eq_true,↓reduceIte];rfl
  | false=>simp only [Bool.not_false,Bool.false_eq_true,↓reduceIte];rfl
 ·rw [if_neg e3]
  refine (if_neg (show ¬(s.step==3)=true by simp [e3])).trans ?_
  rfl
def goS (s:St):St×A3×Int:=
 if s.step=1∧(s.op=203∨s.cb=true) then (s,(1,pcR s.r,0), -1) else if (cycS s).1.1=1 then (s,(2,atS s (cycS s).1.2.1,0), -1) else if (cycS s).1.1=2 then (s,(3,atS s (cycS s).1.2.1,valS s (cycS s).1.2.2), -1) else (s,(0,0,0), -1)
def wantS (s:St) (p:Int):St×A3×Int:=
 if s.mode=3∨s.mode=2∧p<16∨s.mode=1∧p=0 then (s,(0,0,0), -1) else if busyS s=false then ((begS s p).1,(begS s p).2, -1) else if s.mode=4 then callS s p else goS s
theorem mod32_ok {p:Int}:byte (p%32):=⟨by omega,by omega⟩
theorem and16_fin:∀ p:Fin 32,(bits .and .u8 (p.val:Int) 16==0)=decide ((p.val:Int)<16):=by decide +kernel
theorem and16 (p:Int):(bits .and .u8 (p%32) 16==0)=decide (p%32<16):=by
 obtain ⟨m,hm⟩:=Int.eq_ofNat_of_zero_le (show 0≤p%32 by omega)
 rw [hm]
 exact and16_fin ⟨m,by omega⟩
theorem want_spec {s:St} (h:sok s) {p:Int} (hp:byte p):cpu_Want.F (s.c,p,())=some ((wantS s (p%32)).1.c,(wantS s (p%32)).2.1,(wantS s (p%32)).2.2,()):=by
 unfold cpu_Want.F cpu_Want.G
 rw [and31 hp,and16]
 dsimp +instances only [St.c]
 by_cases c0:s.mode=3∨s.mode=2∧p%32<16∨s.mode=1∧p%32=0
 ·unfold wantS
  rw [if_pos c0]
  rcases c0 with m | ⟨m,q⟩ | ⟨m,q⟩
  ·refine (if_pos (show (s.mode==3)=true by simp [m])).trans ?_
   rfl
  ·refine (if_neg (show ¬(s.mode==3)=true by simp [m])).trans ?_
   refine (if_pos (show ((s.mode==2)==true)=true by simp [m])).trans ?_
   refine (if_pos (show decide (p%32<16)=true from decide_eq_true q)).trans ?_
   rfl
  ·refine (if_neg (show ¬(s.mode==3)=true by simp [m])).trans ?_
   refine (if_neg (show ¬((s.mode==2)==true)=true by simp [m])).trans ?_
   refine (if_pos (show ((s.mode==1)==true)=true by simp [m])).trans ?_
   refine (if_pos (show (p%32==0)=true by simp [q])).trans ?_
   rfl
 have ew:wantS s (p%32)=if busyS s=false then ((begS s (p%32)).1,(begS s (p%32)).2, -1) else if s.mode=4 then callS s (p%32) else goS s:=by
  unfold wantS
  rw [if_neg c0]
 rw [ew]
 refine (if_neg (show ¬(s.mode==3)=true by simp;omega)).trans ?_
 by_cases m2:s.mode=2
 case' pos=>
  refine (if_pos (show ((s.mode==2)==true)=true by simp [m2])).trans ?_
  refine (if_neg (show ¬decide (p%32<16)=true by simp;omega)).trans ?_
  refine (if_neg (show ¬((s.mode==1)==true)=true by simp;omega)).trans ?_
 case' neg=>
  refine (if_neg (show ¬((s.mode==2)==true)=true by simp [m2])).trans ?_
  by_cases m1:s.mode=1
  case' pos=>
   refine (if_pos (show ((s.mode==1)==true)=true by simp [m1])).trans ?_
   refine (if_neg (show ¬(p%32==0)=true by simp;omega)).trans ?_
  case' neg=>
   refine (if_neg (show ¬((s.mode==1)==true)=true by simp [m1])).trans ?_
 all_goals
  refine (bind_eq (busy_spec h)).trans ?_
  cases hb:busyS s with
  | false=>
   simp only [Bool.not_false,Bool.not_true,Bool.false_eq_true,↓reduceIte]
   exact bind_eq (begin_spec s (p%32))
  | true =>
   simp only [Bool.not_false,Bool.not_true,Bool.true_eq_false,Bool.false_eq_true,↓reduceIte]
   by_cases m4:s.mode=4
   ·rw [if_pos m4]
    refine (if_pos (show (s.mode==4)=true by simp [m4])).trans ?_
    exact bind_eq (calls_spec h mod32_ok)
   ·rw [if_neg m4]
    refine (if_neg (show ¬(s.mode==4)=true by simp [m4])).trans ?_
    refine (bind_eq (fetches_spec s)).trans ?_
    unfold goS
    by_cases q:s.step=1∧(s.op=203∨s.cb=true)
    ·rw [if_pos q]
     exact if_pos (decide_eq_true q)
    ·rw [if_neg q]
     refine (if_neg (show ¬decide (s.step=1∧(s.op=203∨s.cb=true))=true by rw [decide_eq_true_eq];exact q)).trans ?_
     refine (bind_eq (cycle_spec h)).trans ?_
     have pv:=cyc_pv h
     by_cases b1:(cycS s).1.1=1
     ·rw [if_pos b1]
      refine (if_pos (show ((cycS s).1.1==1)=true by simp [b1])).trans ?_
      exact bind_eq (at_spec h (pv.1 (.inl b1)))
     ·rw [if_neg b1]
      refine (if_neg (show ¬((cycS s).1.1==1)=true by simp [b1])).trans ?_
      by_cases b2:(cycS s).1.1=2
      ·rw [if_pos b2]
       refine (if_pos (show ((cycS s).1.1==2)=true by simp [b2])).trans ?_
       refine (bind_eq (at_spec h (pv.1 (.inr b2)))).trans ?_
       exact bind_eq (value_spec h (pv.2 b2).1 (pv.2 b2).2)
      ·rw [if_neg b2]
       exact if_neg (show ¬((cycS s).1.1==2)=true by simp [b2])
end Go.Proofs.YtmhkjafcfpgikaaGreat.E
