/- Functions of the program as plain Lean, and what they come to. Conditions: none. -/
import Derived.Test.YtmhkjafcfpgikaaGreatEwD
import Derived.Test.YtmhkjafcfpgikaaGreatPureR
open Go Go.Ew
namespace Go.Proofs.YtmhkjafcfpgikaaGreat.E
open Go.IntKind (wrap)
set_option linter.unusedVariables false
set_option linter.unusedSimpArgs false
set_option maxRecDepth 100000
theorem hold_f {r r':R10} (h:r.2.1=r'.2.1) (n:Int):holdS r n=holdS r' n:=by unfold holdS;rw [h]
theorem plR_f (s:St) (k:Int):(plR s k).2.1=s.r.2.1:=by
 unfold plR
 repeat' apply ite_pred (Q:=fun r:R10=>r.2.1=s.r.2.1)
 all_goals rfl
theorem want_go {s:St} (hm:s.mode=0) (hb:busyS s=true) (p:Int):wantS s p=goS s:=by
 unfold wantS
 rw [if_neg (by omega),if_neg (by rw [hb];decide),if_neg (by omega)]
theorem done_go {s:St} (hm:s.mode=0) (hb:busyS s=true) (q:¬(s.step=1∧(s.op=203∨s.cb=true))) (d:Int):doneS s d 0=tailS (movS s (cycS s).1 d).m0 0:=by
 unfold doneS nextS
 rw [if_neg (by unfold waitS;rw [decide_eq_true_eq];omega),if_neg (by omega),if_neg (by rw [hb];decide),if_neg q]
 rfl
theorem done_second {s:St} (hm:s.mode=0) (hb:busyS s=true) (q:s.step=1∧(s.op=203∨s.cb=true)) (d:Int):doneS s d 0=tailS (scdS s d).m0 0:=by
 unfold doneS nextS
 rw [if_neg (by unfold waitS;rw [decide_eq_true_eq];omega),if_neg (by omega),if_neg (by rw [hb];decide),if_pos q]
 rfl
theorem done_first {s:St} (hm:s.mode=0) (e:s.step=0) (d:Int):doneS s d 0=tailS (fetS s d).m0 0:=by
 unfold doneS nextS
 rw [if_neg (by unfold waitS;rw [decide_eq_true_eq];omega),if_neg (by omega),if_pos (busy0 e)]
 rfl
def plenS (op:Int) (cb:Bool) (r:R10):Int:=(T.planS (T.formS op cb).1 (T.formS op cb).2.1 (T.formS op cb).2.2.1 (holdS r (T.formS op cb).2.1)).length
def totS (r:R10) (o1 o2:Int):Int:=if o1=203 then 2+plenS o2 true r else 1+plenS o1 false r
structure At (s0:St) (o1 o2:Int) (n k:Int) (s:St):Prop where
 ok:sok s
 mode:s.mode=0
 fl:s.r.2.1=s0.r.2.1
 here:(n=0∧k=0∧s=s0)∨(n=1∧k=1∧o1=203∧s.step=1∧s.op=203∧s.cb=false∧busyS s=true)∨(1≤n∧s.step=n∧busyS s=true∧(o1=203→s.op=o2∧s.cb=true∧2≤n)∧(o1≠203→s.op=o1∧s.cb=false))
theorem len_tot {s0 s:St} {o1 o2:Int} (hf:s.r.2.1=s0.r.2.1) (h1:o1=203→s.op=o2∧s.cb=true) (h2:o1≠203→s.op=o1∧s.cb=false):lenS s=totS s0.r o1 o2:=by
 unfold lenS totS plenS
 by_cases e:o1=203
 ·obtain ⟨a,b⟩:=h1 e
  rw [if_pos e,if_neg (by rw [b];simp),if_pos b]
  unfold St.pl St.f
  rw [a,b,hold_f hf]
 ·obtain ⟨a,b⟩:=h2 e
  rw [if_neg e,if_neg (by rw [a];exact fun z=>e z.1),if_neg (by rw [b];decide)]
  unfold St.pl St.f
  rw [a,b,hold_f hf]
theorem tail_at {s0 t:St} {o1 o2 n k:Int} (hk:sok t) (hm:t.mode=0) (hf:t.r.2.1=s0.r.2.1) (h0:fl0 s0) (hn:1≤n) (hs:t.step=n)
  (h1:o1=203→t.op=o2∧t.cb=true∧2≤n) (h2:o1≠203→t.op=o1∧t.cb=false) :
  (busyS (tailS t 0)=true∧At s0 o1 o2 n k (tailS t 0))∨(busyS (tailS t 0)=false∧totS s0.r o1 o2≤n∧fl0 (tailS t 0)):=by
 have hl:=len_tot hf (fun e=>⟨(h1 e).1,(h1 e).2.1⟩) h2
 rcases tail_eq hm (by omega) with ⟨g,e,b⟩ | ⟨g,e,b⟩
 ·left
  rw [e]
  exact ⟨b,hk,hm,hf, .inr (.inr ⟨hn,hs,b,h1,h2⟩)⟩
 ·right
  refine ⟨b,by omega,?_⟩
  rw [e]
  exact end_fl (s:=t.z) (by show t.r.2.1%16=0;rw [hf];exact h0) _ _ _ _
theorem begun_want {s0:St} (hm:s0.mode=0) (hs:s0.step=0) (hi:s0.ime=false) (ha:s0.arm=false):wantS s0 0=(s0,(1,pcR s0.r,0), -1):=by
 rw [want0 hm hs]
 unfold begS
 rw [if_neg (by simp)]
 cases s0;simp_all
theorem round {s0 s:St} {o1 o2 n k:Int} (h0:fl0 s0) (hi:s0.ime=false) (ha:s0.arm=false) (hz:s0.step=0) (hn:n<200) (ho1:byte o1) (h:At s0 o1 o2 n k s) :
  (wantS s 0).1=s∧∀ v,byte v→(n=0→v=o1)→(n=1∧o1=203→v=o2) →
  ((n=0∨n=1∧o1=203)→(wantS s 0).2.1.1=1∧k=n)∧∀ k',(n=0→k'=1) →
  (busyS (doneS s v 0)=true∧At s0 o1 o2 (n+1) k' (doneS s v 0))∨(busyS (doneS s v 0)=false∧n+1=totS s0.r o1 o2∧fl0 (doneS s v 0)):=by
 have t1:1≤totS s0.r o1 o2:=by
  unfold totS plenS
  split<;>omega
 rcases h.here with ⟨rfl,rfl,rfl⟩ | ⟨rfl,rfl,e1,st,so,sc,b⟩ | ⟨n1,st,b,p1,p2⟩
 ·have hw:=begun_want h.mode hz hi ha
  refine ⟨by rw [hw],fun v hv v0 _=>⟨fun _=>⟨by rw [hw],rfl⟩,fun k' hk' => ?_⟩⟩
  have e0:=v0 rfl
  subst e0
  rw [done_first h.mode hz]
  have kt:=m0_ok (fet_ok h.ok hv)
  have ft:(fetS s v).m0.r.2.1=s.r.2.1:=by
   show (if s.bug=true then s.r else setPC s.r _).2.1=_
   split<;>rfl
  by_cases e:v=203
  ·subst e
   rcases tail_eq (t:=(fetS s 203).m0) rfl (by show (1:Int)≤1;decide) with ⟨g,e,b⟩ | ⟨g,e,b⟩
   ·left
    rw [e]
    exact ⟨b,kt,rfl,ft, .inr (.inl ⟨rfl,hk' rfl,rfl,rfl,rfl,rfl,b⟩)⟩
   ·exfalso
    have:lenS (fetS s 203).m0=2:=rfl
    have e2:(fetS s 203).m0.step=1:=rfl
    omega
  ·rcases tail_at (t:=(fetS s v).m0) (o1:=v) (o2:=o2) (n:=1) (k:=k') kt rfl ft h0 (by decide) rfl (fun z=>absurd z e) (fun _=>⟨rfl,rfl⟩) with g | ⟨g1,g2,g3⟩
   ·exact .inl g
   ·exact .inr ⟨g1,by omega,g3⟩
 ·have hw:=want_go h.mode b 0
  have hg:goS s=(s,(1,pcR s.r,0), -1):=by
   unfold goS
   rw [if_pos ⟨st, .inl so⟩]
  refine ⟨by rw [hw,hg],fun v hv _ v1=>⟨fun _=>⟨by rw [hw,hg],rfl⟩,fun k' hk' => ?_⟩⟩
  have e0:=v1 ⟨rfl,e1⟩
  subst e0
  rw [done_second h.mode b ⟨st, .inl so⟩]
  have kt:=m0_ok (scd_ok h.ok hv)
  have t2:2≤totS s0.r o1 v:=by
   unfold totS plenS
   rw [if_pos e1]
   omega
  rcases tail_at (t:=(scdS s v).m0) (o1:=o1) (o2:=v) (n:=2) (k:=k') kt rfl h.fl h0 (by decide) rfl (fun _=>⟨rfl,rfl,by decide⟩) (fun z=>absurd e1 z) with g | ⟨g1,g2,g3⟩
  ·exact .inl g
  ·exact .inr ⟨g1,by omega,g3⟩
 ·have hw:=want_go h.mode b 0
  have q:¬(s.step=1∧(s.op=203∨s.cb=true)):=by
   rintro ⟨a,c⟩
   by_cases e:o1=203
   ·have:=(p1 e).2.2;omega
   ·obtain ⟨d,f⟩:=p2 e
    rcases c with c | c
    ·exact e (d▸c)
    ·rw [f] at c;exact absurd c (by decide)
  refine ⟨by rw [hw,go_s],fun v hv _ _=>⟨fun z => ?_,fun k' hk' => ?_⟩⟩
  ·exfalso
   rcases z with z | ⟨z,e⟩
   ·omega
   ·have:=(p1 e).2.2;omega
  rw [done_go h.mode b q]
  have kt:=m0_ok (mov_ok h.ok (cycS s).1 hv)
  have hl:lenS s=totS s0.r o1 o2:=len_tot h.fl (fun e=>⟨(p1 e).1,(p1 e).2.1⟩) p2
  have hb:=(busy_fields b (by have:=h.mode;omega)).2
  have ft:(movS s (cycS s).1 v).m0.r.2.1=s0.r.2.1:=(plR_f s _).trans h.fl
  have hst:(movS s (cycS s).1 v).m0.step=n+1:=by
   show wrap .u8 (s.step+1)=_
   rw [w8 (by omega),st]
  rcases tail_at (t:=(movS s (cycS s).1 v).m0) (o1:=o1) (o2:=o2) (n:=n+1) (k:=k') kt rfl ft h0 (by omega) hst (fun e=>⟨(p1 e).1,(p1 e).2.1,by omega⟩) p2 with g | ⟨g1,g2,g3⟩
  ·exact .inl g
  ·exact .inr ⟨g1,by omega,g3⟩
end Go.Proofs.YtmhkjafcfpgikaaGreat.E
