/- Functions of the program as plain Lean, and what they come to. Conditions: none. -/
import Derived.Test.YtmhkjafcfpgikaaGreatEwD
import Derived.Test.YtmhkjafcfpgikaaGreatPureK
open Go Go.Ew
namespace Go.Proofs.YtmhkjafcfpgikaaGreat.E
open Go.IntKind (wrap)
set_option linter.unusedVariables false
set_option linter.unusedSimpArgs false
set_option maxRecDepth 100000
def fl0 (s:St):Prop:=s.r.2.1%16=0
theorem fls0 (f:FL):flS f%16=0:=by
 obtain ⟨a,b,c,d⟩:=f
 revert a b c d;decide
theorem putR_f (r:R10) (n:Nat) (v:Int):(putR r n v).2.1=r.2.1:=by
 unfold putR;split<;>rfl
theorem putP_f0 {r:R10} (n:Nat) (w:Int) (h:r.2.1%16=0):(putP r n w).2.1%16=0:=by
 unfold putP
 split
 ·exact h
 ·exact h
 ·exact h
 ·exact h
 ·show (w%256 / 16*16)%16=0
  omega
theorem putx_f (s:St) (n v:Int):(putx s n v).r.2.1=s.r.2.1:=by
 unfold putx;split
 ·rfl
 ·exact putR_f _ _ _
theorem ite_pred {α:Type} {Q:α→Prop} {c:Prop} [Decidable c] {a b:α} (h1:Q a) (h2:Q b):Q (if c then a else b):=by split<;>assumption
theorem fl_with (s:St) (r:R10) (f:FL):fl0 { s with r:=withF r f }:=fls0 f
theorem end_fl {s:St} (h:fl0 s) (k:Int) (x y:Nat) (p:Int):fl0 (endS s k x y p):=by
 unfold endS
 repeat' apply ite_pred
 all_goals first
  | exact h
  | exact fl_with _ _ _
  | exact putP_f0 _ _ h
  | (show (putx _ _ _).r.2.1%16=0;rw [putx_f];exact h)
  | (show (putR _ _ _).2.1%16=0;rw [putR_f];exact h)
theorem putx_step (s:St) (n v:Int):(putx s n v).step=s.step:=by
 unfold putx;split<;>rfl
theorem end_step (s:St) (k:Int) (x y:Nat) (p:Int):(endS s k x y p).step=s.step:=by
 unfold endS
 repeat' apply ite_pred (Q:=fun t:St=>t.step=s.step)
 all_goals first
  | rfl
  | exact putx_step _ _ _
  | (show (putx _ _ _).step=_;exact putx_step _ _ _)
theorem busy_end (s:St) (p:Int):busyS (endOf s p)=false:=busy0 (by unfold endOf;rw [end_step];rfl)
theorem tail_eq {t:St} (hm:t.mode=0) (h1:1≤t.step):(t.step<lenS t∧tailS t 0=t∧busyS t=true)∨(lenS t≤t.step∧tailS t 0=endOf t 0∧busyS (tailS t 0)=false):=by
 unfold tailS
 rw [cyc_len h1]
 by_cases g:t.step<lenS t
 ·left
  refine ⟨g,if_pos (decide_eq_true g),?_⟩
  unfold busyS
  rw [if_neg (by unfold waitS;rw [decide_eq_true_eq];omega),if_neg (by omega),if_neg (by omega)]
  exact decide_eq_true g
 ·right
  rw [if_neg (by rw [decide_eq_true_eq];exact g)]
  exact ⟨by omega,rfl,busy_end _ _⟩
theorem put_ok' {s:St} (h:sok s) (n:Int) {v:Int} (hv:byte v):sok (putx s n v):=by
 unfold putx;split
 ·exact h
 ·exact ⟨putR_ok h.r _ hv,h.op,h.step,h.lo,h.hi⟩
theorem r_ok {s:St} (h:sok s) {r:R10} (hr:rok r):sok { s with r:=r }:=⟨hr,h.op,h.step,h.lo,h.hi⟩
theorem mod8 (x:Int):byte (x%256):=⟨by omega,by omega⟩
theorem do_ok {a v:Int} (ha:byte a) (hv:byte v) (op:Nat) (f:FL):byte (doS op a v f).1:=by
 unfold doS
 repeat' apply ite_pred (Q:=fun z:Int×FL=>byte z.1)
 ·exact mod8 _
 ·exact mod8 _
 ·exact mod8 _
 ·exact mod8 _
 ·exact ha
 ·exact eachS_byte ha hv
theorem daa_ok (a:Int) (f:FL):byte (daaS a f).1:=by
 unfold daaS
 split<;>exact mod8 _
theorem cpl_ok {a:Int} (h:byte a):byte (255 - a):=⟨by have:=h.2;omega,by have:=h.1;omega⟩
theorem alt_ok {s:St} (h:sok s) {x:Nat} (hx:x<8) (k:Int) (y:Nat):byte (altS s k x y).1:=by
 unfold altS
 repeat' apply ite_pred (Q:=fun z:Int×FL=>byte z.1)
 ·exact mod8 _
 ·exact mod8 _
 ·exact shV_byte hx (opnd_ok h _) _
 ·exact (putS_byte (opnd_ok h _) x hx _).1
 ·exact (putS_byte (opnd_ok h _) x hx _).1
theorem end_ok {s:St} (h:sok s) {x:Nat} (hx:x<8) (k:Int) (y:Nat) (p:Int):sok (endS s k x y p):=by
 have hsp:word (spR s.r):=h.r.sp
 unfold endS
 refine ite_pred (Q:=sok) (⟨h.r,h.op,h.step,h.lo,h.hi⟩) ?_
 refine ite_pred (Q:=sok) (ite_pred (Q:=sok) (⟨h.r,h.op,h.step,h.lo,h.hi⟩) (⟨h.r,h.op,h.step,h.lo,h.hi⟩)) ?_
 refine ite_pred (Q:=sok) (⟨h.r,h.op,h.step,h.lo,h.hi⟩) ?_
 refine ite_pred (Q:=sok) (⟨h.r,h.op,h.step,h.lo,h.hi⟩) ?_
 refine ite_pred (Q:=sok) (⟨h.r,h.op,h.step,h.lo,h.hi⟩) ?_
 refine ite_pred (Q:=sok) (put_ok' h _ (opnd_ok h _)) ?_
 refine ite_pred (Q:=sok) (put_ok' h _ h.lo) ?_
 refine ite_pred (Q:=sok) (r_ok h (setA_ok h.r h.lo)) ?_
 refine ite_pred (Q:=sok) (r_ok h (setA_ok h.r h.lo)) ?_
 refine ite_pred (Q:=sok) (r_ok h (setA_ok h.r h.lo)) ?_
 refine ite_pred (Q:=sok) (r_ok h (setA_ok h.r h.lo)) ?_
 refine ite_pred (Q:=sok) (r_ok h (putP_ok h.r _ (far_ok h))) ?_
 refine ite_pred (Q:=sok) (r_ok h (setSP_ok h.r (pairx_ok h _))) ?_
 refine ite_pred (Q:=sok) (r_ok h (withF_ok (putP_ok h.r _ (word_mod _)) _)) ?_
 refine ite_pred (Q:=sok) (r_ok h (putP_ok h.r _ (far_ok h))) ?_
 refine ite_pred (Q:=sok) (r_ok h (withF_ok (setA_ok h.r (do_ok h.r.a (opnd_ok h _) _ _)) _)) ?_
 refine ite_pred (Q:=sok) (r_ok h (withF_ok (setA_ok h.r (do_ok h.r.a h.lo _ _)) _)) ?_
 refine ite_pred (Q:=sok) ((fun t:sok (putx s x (altS s 25 x y).1)=>r_ok t (withF_ok t.r _)) (put_ok' h _ (alt_ok h hx _ _))) ?_
 refine ite_pred (Q:=sok) ((fun t:sok (putx s x (altS s 26 x y).1)=>r_ok t (withF_ok t.r _)) (put_ok' h _ (alt_ok h hx _ _))) ?_
 refine ite_pred (Q:=sok) (r_ok h (putP_ok h.r _ (word_mod _))) ?_
 refine ite_pred (Q:=sok) (r_ok h (putP_ok h.r _ (word_mod _))) ?_
 refine ite_pred (Q:=sok) (r_ok h (withF_ok (putP_ok h.r _ (word_mod _)) _)) ?_
 refine ite_pred (Q:=sok) (r_ok h (withF_ok (setSP_ok h.r (word_mod _)) _)) ?_
 refine ite_pred (Q:=sok) (r_ok h (withF_ok (setA_ok h.r (shV_byte hx h.r.a _)) _)) ?_
 refine ite_pred (Q:=sok) (r_ok h (withF_ok (setA_ok h.r (daa_ok _ _)) _)) ?_
 refine ite_pred (Q:=sok) (r_ok h (withF_ok (setA_ok h.r (cpl_ok h.r.a)) _)) ?_
 refine ite_pred (Q:=sok) (r_ok h (withF_ok h.r _)) ?_
 refine ite_pred (Q:=sok) (r_ok h (withF_ok h.r _)) ?_
 refine ite_pred (Q:=sok) (ite_pred (Q:=sok) (r_ok h (setPC_ok h.r (word_mod _))) (h)) ?_
 refine ite_pred (Q:=sok) (ite_pred (Q:=sok) (r_ok h (setPC_ok h.r (far_ok h))) (h)) ?_
 refine ite_pred (Q:=sok) (r_ok h (setPC_ok h.r (pairx_ok h _))) ?_
 refine ite_pred (Q:=sok) (ite_pred (Q:=sok) (r_ok h (setPC_ok h.r (far_ok h))) (h)) ?_
 refine ite_pred (Q:=sok) (ite_pred (Q:=sok) (r_ok h (setPC_ok h.r (far_ok h))) (h)) ?_
 refine ite_pred (Q:=sok) (⟨setPC_ok h.r (far_ok h),h.op,h.step,h.lo,h.hi⟩) ?_
 refine ite_pred (Q:=sok) (r_ok h (setPC_ok h.r (word_mod _))) ?_
 refine ite_pred (Q:=sok) ((fun t:sok (putx s y (altS s 43 x y).1)=>r_ok t (withF_ok t.r _)) (put_ok' h _ (alt_ok h hx _ _))) ?_
 refine ite_pred (Q:=sok) (r_ok h (withF_ok h.r _)) ?_
 refine ite_pred (Q:=sok) (put_ok' h _ (alt_ok h hx _ _)) ?_
 refine ite_pred (Q:=sok) (put_ok' h _ (alt_ok h hx _ _)) ?_
 exact h
theorem tail_ok {t:St} (h:sok t) (p:Int):sok (tailS t p):=by
 unfold tailS
 split
 ·exact h
 ·have fk:=fok_of h
  exact end_ok (s:=t.z) ⟨h.r,h.op,byte0,h.lo,h.hi⟩ (by have:=fk.x1;omega) _ _ _
theorem wrap8_byte (x:Int):byte (wrap .u8 x):=by show byte (x%256);exact mod8 _
theorem cal_ok {s:St} (h:sok s):sok (calS s):=by
 have l0:=h.lo.1
 have l1:=h.lo.2
 unfold calS
 split
 ·exact ⟨h.r,h.op,⟨by show (0:Int)≤2;decide,by show (2:Int)≤255;decide⟩,h.lo,h.hi⟩
 split
 ·exact ⟨setSP_ok h.r (word_mod _),h.op,wrap8_byte _,h.lo,h.hi⟩
 split
 ·refine ⟨setPC_ok h.r ?_,h.op,byte0,h.lo,h.hi⟩
  split
  ·exact ⟨by omega,by omega⟩
  ·exact ⟨by decide,by decide⟩
 ·exact ⟨h.r,h.op,⟨by show (0:Int)≤1;decide,by show (1:Int)≤255;decide⟩,h.lo,h.hi⟩
theorem done_ok {s:St} (h:sok s) {d:Int} (hd:byte d) (p:Int):sok (doneS s d p):=by
 unfold doneS
 split
 ·exact h
 split
 ·exact cal_ok h
 ·apply tail_ok
  apply m0_ok
  unfold nextS
  split
  ·exact fet_ok h hd
  split
  ·exact scd_ok h hd
  ·exact mov_ok h _ hd
theorem go_s (s:St):(goS s).1=s:=by
 unfold goS
 repeat' apply ite_pred (Q:=fun z:St×A3×Int=>z.1=s)
 all_goals rfl
end Go.Proofs.YtmhkjafcfpgikaaGreat.E
