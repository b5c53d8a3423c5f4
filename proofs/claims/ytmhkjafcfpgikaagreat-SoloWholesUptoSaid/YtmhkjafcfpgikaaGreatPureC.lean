/- Functions of the program as plain Lean, and what they come to. Conditions: none. -/
import Derived.Test.YtmhkjafcfpgikaaGreatEwD
import Derived.Test.YtmhkjafcfpgikaaGreatPureB
import Derived.Test.YtmhkjafcfpgikaaGreatWalkC
open Go Go.Ew
namespace Go.Proofs.YtmhkjafcfpgikaaGreat.E
set_option linter.unusedVariables false
set_option linter.unusedSimpArgs false
set_option maxRecDepth 100000
structure St where
 r:R10
 ime:Bool
 arm:Bool
 bug:Bool
 mode:Int
 op:Int
 cb:Bool
 step:Int
 lo:Int
 hi:Int
def St.b (s:St):CB:=(s.r.1,s.r.2.1,s.r.2.2.1,s.r.2.2.2.1,s.r.2.2.2.2.1,s.r.2.2.2.2.2.1,s.r.2.2.2.2.2.2.1,s.r.2.2.2.2.2.2.2.1,s.r.2.2.2.2.2.2.2.2.1,s.r.2.2.2.2.2.2.2.2.2,s.ime,s.arm,s.bug,s.mode,s.op,s.cb,s.step,s.lo,s.hi,())
def St.c (s:St):CC:=(s.r.1,s.r.2.1,s.r.2.2.1,s.r.2.2.2.1,s.r.2.2.2.2.1,s.r.2.2.2.2.2.1,s.r.2.2.2.2.2.2.1,s.r.2.2.2.2.2.2.2.1,s.r.2.2.2.2.2.2.2.2.1,s.r.2.2.2.2.2.2.2.2.2,s.ime,s.arm,s.bug,s.mode,s.op,s.cb,s.step,s.lo,s.hi)
def ofC (x:CC):St:=⟨(x.1,x.2.1,x.2.2.1,x.2.2.2.1,x.2.2.2.2.1,x.2.2.2.2.2.1,x.2.2.2.2.2.2.1,x.2.2.2.2.2.2.2.1,x.2.2.2.2.2.2.2.2.1,x.2.2.2.2.2.2.2.2.2.1),x.2.2.2.2.2.2.2.2.2.2.1,x.2.2.2.2.2.2.2.2.2.2.2.1,x.2.2.2.2.2.2.2.2.2.2.2.2.1,x.2.2.2.2.2.2.2.2.2.2.2.2.2.1,x.2.2.2.2.2.2.2.2.2.2.2.2.2.2.1,x.2.2.2.2.2.2.2.2.2.2.2.2.2.2.2.1,x.2.2.2.2.2.2.2.2.2.2.2.2.2.2.2.2.1,x.2.2.2.2.2.2.2.2.2.2.2.2.2.2.2.2.2.1,x.2.2.2.2.2.2.2.2.2.2.2.2.2.2.2.2.2.2⟩
structure sok (s:St):Prop where
 r:rok s.r
 op:byte s.op
 step:byte s.step
 lo:byte s.lo
 hi:byte s.hi
def St.f (s:St):T.F6:=T.formS s.op s.cb
def St.pl (s:St):List (Int×Int×Int):=T.planS s.f.1 s.f.2.1 s.f.2.2.1 (holdS s.r s.f.2.1)
theorem dec_spec' {op:Int} (h:byte op):opcode_Decode.F (op,())=some (T.decS op,()):=by
 show T.opcode_Decode.F (op,())=_
 unfold T.opcode_Decode.F T.tabF
 exact if_pos h
theorem cb_spec' {op:Int} (h:byte op):opcode_DecodeCB.F (op,())=some (T.cbS op,()):=by
 show T.opcode_DecodeCB.F (op,())=_
 unfold T.opcode_DecodeCB.F T.tabF
 exact if_pos h
theorem rdec_spec' {op:Int} (h:byte op):ref05_Decode.F (op,())=some (T.decS op,()):=T.rdec_spec h.1 h.2
theorem rcb_spec' {op:Int} (h:byte op):ref05_DecodeCB.F (op,())=some (T.cbS op,()):=T.rcb_spec h.1 h.2
theorem plan_spec' {op:Int} (h:byte op) (cb t:Bool):micro_Plan.F (op,cb,t,())=some (T.planS (T.formS op cb).1 (T.formS op cb).2.1 (T.formS op cb).2.2.1 t,()):=by
 show T.micro_Plan.F (op,cb,t,())=_
 unfold T.micro_Plan.F
 exact if_pos h
theorem form_spec {s:St} (h:sok s):cpu_core_form.F () s.b=some (s.f,()):=by
 unfold cpu_core_form.F cpu_core_form.G St.f T.formS
 dsimp +instances only [St.b]
 rw [cb_spec' h.op,dec_spec' h.op]
 cases s.cb<;>rfl
theorem rform_spec {op:Int} (h:byte op) (cb:Bool):ref21_Form.F (op,cb,())=some (T.formS op cb,()):=by
 unfold ref21_Form.F ref21_Form.G T.formS
 dsimp only
 rw [rcb_spec' h,rdec_spec' h]
 cases cb<;>rfl
theorem taken_spec {s:St} (h:sok s):cpu_core_taken.F () s.b=some (holdS s.r s.f.2.1,()):=by
 unfold cpu_core_taken.F cpu_core_taken.G
 rw [form_spec h]
 dsimp +instances only [Option.bind_some,St.b,Prod.x10,Prod.x11,Prod.x12,Prod.x13,Prod.x14,Prod.x15,Prod.x16,Prod.x17]
 rw [holds_spec (r:=s.r) h.r]
 rfl
def cycS (s:St):(Int×Int×Int)×Bool:=
 if s.op=203∧s.cb=false then ((0,0,0),decide (s.step=1))
 else if s.cb=true∧s.step=1 then ((0,0,0),true)
 else if 0≤s.step - 1 - (if s.cb=true then 1 else 0)∧s.step - 1 - (if s.cb=true then 1 else 0)<(s.pl.length:Int) then (s.pl.getD (s.step - 1 - (if s.cb=true then 1 else 0)).toNat (0,0,0),true) else ((0,0,0),false)
def lenS (s:St):Int:=if s.op=203∧s.cb=false then 2 else (if s.cb=true then 2 else 1)+(s.pl.length:Int)
def waitS (s:St):Bool:=decide (s.mode=1∨s.mode=2∨s.mode=3)
def busyS (s:St):Bool:=if waitS s=true then false else if s.step=0 then false else if s.mode=4 then decide (s.step≤4) else decide (s.step<lenS s)
theorem cyc_len {s:St} (h:1≤s.step):(cycS s).2=decide (s.step<lenS s):=by
 unfold cycS lenS
 by_cases q:s.op=203∧s.cb=false
 ·rw [if_pos q,if_pos q]
  exact decide_eq_decide.2 (by omega)
 ·rw [if_neg q,if_neg q]
  by_cases c:s.cb=true
  ·rw [if_pos c,if_pos c]
   by_cases e:s.step=1
   ·rw [if_pos ⟨c,e⟩]
    exact (decide_eq_true (by omega)).symm
   ·rw [if_neg (fun z=>e z.2)]
    by_cases g:s.step<2+(s.pl.length:Int)
    ·rw [if_pos (by omega)]
     exact (decide_eq_true g).symm
    ·rw [if_neg (by omega)]
     exact (decide_eq_false g).symm
  ·rw [if_neg c,if_neg c,if_neg (fun z=>c z.1)]
   by_cases g:s.step<1+(s.pl.length:Int)
   ·rw [if_pos (by omega)]
    exact (decide_eq_true g).symm
   ·rw [if_neg (by omega)]
    exact (decide_eq_false g).symm
theorem cycle_spec {s:St} (h:sok s):cpu_core_cycle.F () s.b=some ((cycS s).1,(cycS s).2,()):=by
 have a:=h.step.1
 have b:=h.step.2
 unfold cpu_core_cycle.F cpu_core_cycle.G
 rw [taken_spec h]
 dsimp +instances only [Option.bind_some,St.b,Prod.x10,Prod.x11,Prod.x12,Prod.x13,Prod.x14,Prod.x15,Prod.x16,Prod.x17]
 rw [plan_spec' h.op]
 rw [w64 (n:=s.step) (by omega),w64 (n:=s.step - 1) (by omega),w64 (n:=s.step - 1 - 1) (by omega)]
 dsimp only [Option.bind_some]
 rw [show T.planS (T.formS s.op s.cb).1 (T.formS s.op s.cb).2.1 (T.formS s.op s.cb).2.2.1 (holdS s.r s.f.2.1)=s.pl from rfl]
 unfold cycS
 generalize s.pl=l
 cases c:s.cb with
 | false =>
  by_cases q:s.op=203
  ·simp [q,beqD]
  ·by_cases g:s.step - 1<0
   ·simp [q,g,show ¬(1≤s.step) by omega]
   ·by_cases g2:s.step - 1<(l.length:Int)
    ·simp [q,g,g2,show (1≤s.step) by omega,show ¬((l.length:Int)≤s.step - 1) by omega]
    ·simp [q,g,g2,show (l.length:Int)≤s.step - 1 by omega]
 | true =>
  by_cases e:s.step=1
  ·simp [e]
  ·by_cases g:s.step - 1 - 1<0
   ·simp [e,g,show ¬(1≤s.step - 1) by omega]
   ·by_cases g2:s.step - 1 - 1<(l.length:Int)
    ·simp [e,g,g2,show (1≤s.step - 1) by omega,show ¬((l.length:Int)≤s.step - 1 - 1) by omega]
    ·simp [e,g,g2,show (l.length:Int)≤s.step - 1 - 1 by omega]
theorem fetches_spec (s:St):cpu_core_fetches.F () s.b=some (decide (s.step=1∧(s.op=203∨s.cb=true)),()):=by
 unfold cpu_core_fetches.F cpu_core_fetches.G
 dsimp +instances only [St.b]
 by_cases e:s.step=1<;>by_cases q:s.op=203<;>cases c:s.cb<;>simp [e,q]
theorem busy_spec {s:St} (h:sok s):cpu_core_busy.F () s.b=some (busyS s,()):=by
 have a:=h.step.1
 unfold cpu_core_busy.F cpu_core_busy.G busyS waitS
 rw [cycle_spec h]
 dsimp +instances only [Option.bind_some,St.b,Prod.x10,Prod.x11,Prod.x12,Prod.x13,Prod.x14,Prod.x15,Prod.x16,Prod.x17]
 by_cases m1:s.mode=1
 ·simp [m1]
 by_cases m2:s.mode=2
 ·simp [m2]
 by_cases m3:s.mode=3
 ·simp [m3]
 by_cases e:s.step=0
 ·simp [m1,m2,m3,e]
 by_cases m4:s.mode=4
 ·simp [m4,e]
 simp [m1,m2,m3,m4,e]
 exact cyc_len (by omega)
theorem Busy_spec {s:St} (h:sok s):cpu_Busy.F (s.c,())=some (busyS s,()):=by
 unfold cpu_Busy.F cpu_Busy.G
 dsimp +instances only [St.c,Prod.x10,Prod.x11,Prod.x12,Prod.x13,Prod.x14,Prod.x15,Prod.x16,Prod.x17]
 exact congrArg (fun o=>Option.bind o fun y0=>some y0) (busy_spec h)
end Go.Proofs.YtmhkjafcfpgikaaGreat.E
