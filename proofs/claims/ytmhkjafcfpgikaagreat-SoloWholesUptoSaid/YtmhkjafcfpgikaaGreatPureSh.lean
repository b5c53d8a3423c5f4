/- Functions of the program as plain Lean, and what they come to. Conditions: none. -/
import Derived.Test.YtmhkjafcfpgikaaGreatEwD
import Derived.Test.YtmhkjafcfpgikaaGreatWalkH
import Derived.Test.YtmhkjafcfpgikaaGreatPurePh
open Go Go.Ew
namespace Go.Proofs.YtmhkjafcfpgikaaGreat.E
open Go.IntKind (wrap)
set_option linter.unusedVariables false
set_option linter.unusedSimpArgs false
set_option maxRecDepth 100000
def pk (r:R10) (rd:List Int) (q:Int):Int×Int×Int×Int×Int×Int×Int×Int×Int×Int×(List Int)×Int:=(r.1,r.2.1,r.2.2.1,r.2.2.2.1,r.2.2.2.2.1,r.2.2.2.2.2.1,r.2.2.2.2.2.2.1,r.2.2.2.2.2.2.2.1,r.2.2.2.2.2.2.2.2.1,r.2.2.2.2.2.2.2.2.2,rd,q)
def Wh.w (rd:List Int) (x:Wh):WW:=(pk x.r rd (x.n:Int),x.l)
structure wok (m:Nat) (w:Wh):Prop where
 r:rok w.r
 n:w.n≤m
 l:w.l.length≤m
theorem mem_byte {reads:List Int} (h:∀ v∈reads,byte v) (k:Nat):byte (reads.getD k 0):=by
 rcases Nat.lt_or_ge k reads.length with g | g
 ·exact h _ (getD_mem g 0)
 ·rw [List.getD_eq_getElem?_getD,List.getElem?_eq_none g];exact byte0
theorem appA (l:List A3) (a:A3):List.take (0+l.length+1) (List.drop 0 (List.take (0+l.length) (List.drop 0 (List.take 0 []++l++List.drop (0+l.length) []))++List.take 1 (List.drop 0 [a])))=l++[a]:=by
 simp only [List.drop_zero,Nat.zero_add,List.take_zero,List.nil_append,List.drop_nil,List.append_nil,List.take_length,List.take_nil]
 exact List.take_of_length_le (by simp)
theorem appB (l:List A3) (a:A3):List.take (0+l.length+1) (List.drop 0 (List.take (0+l.length) (List.take 0 (List.drop 0 [])++l)++List.take 1 (List.drop 0 [a])))=l++[a]:=by
 simp only [List.drop_zero,Nat.zero_add,List.take_zero,List.nil_append,List.drop_nil,List.append_nil,List.take_length,List.take_nil]
 exact List.take_of_length_le (by simp)
theorem get_end {rd:List Int} {x:Wh} {a:A3} {v:Int} {l:List A3} (hn:x.n≤100) (hl:l=x.l++[a]):(some ((pk x.r rd (wrap .i64 ((x.n:Int)+1)),l),v,()):Option (WW×Int×Unit))=some ((pk x.r rd ((x.n+1:Nat):Int),x.l++[a]),v,()):=by
 have e:wrap .i64 ((x.n:Int)+1)=((x.n+1:Nat):Int):=by rw [w64 (by omega)];omega
 rw [e,hl]
theorem gets {rd:List Int} {x:Wh} {m:Nat} (h:wok m x) (hm:m≤100) (k a:Int):ref22_get.F (x.w rd,k,a,())=some ((getW rd x k a).w rd,x.v rd,()):=by
 have hl:=h.l
 have hn:=h.n
 show ref22_get.G (x.w rd) k a=_
 unfold ref22_get.G
 by_cases c:(x.n:Int)<(rd.length:Int)
 ·refine (if_pos (decide_eq_true c)).trans ?_
  refine (if_pos ⟨Int.natCast_nonneg _,c⟩).trans ?_
  by_cases z:0+x.l.length≤0
  ·refine (if_pos z).trans ?_
   refine (if_pos (show 0+x.l.length+1≤268435456 by omega)).trans ?_
   exact get_end (by omega) (appA x.l (k,a,rd.getD x.n 0))
  ·refine (if_neg z).trans ?_
   refine (if_pos (show 0+x.l.length≤268435456 by omega)).trans ?_
   refine (if_pos (show 0+x.l.length+1≤268435456 by omega)).trans ?_
   exact get_end (by omega) (appB x.l (k,a,rd.getD x.n 0))
 ·have e:x.v rd=0:=by
   show rd.getD x.n 0=0
   rw [List.getD_eq_getElem?_getD,List.getElem?_eq_none (by omega)];rfl
  have eg:getW rd x k a=⟨x.r,x.n+1,x.l++[(k,a,(0:Int))]⟩:=by show (⟨_,_,_++[(k,a,x.v rd)]⟩:Wh)=_;rw [e]
  rw [e,eg]
  refine (if_neg (by rw [decide_eq_true_eq];exact c)).trans ?_
  by_cases z:0+x.l.length≤0
  ·refine (if_pos z).trans ?_
   refine (if_pos (show 0+x.l.length+1≤268435456 by omega)).trans ?_
   exact get_end (by omega) (appA x.l (k,a,0))
  ·refine (if_neg z).trans ?_
   refine (if_pos (show 0+x.l.length≤268435456 by omega)).trans ?_
   refine (if_pos (show 0+x.l.length+1≤268435456 by omega)).trans ?_
   exact get_end (by omega) (appB x.l (k,a,0))
theorem set_end {rd:List Int} {x:Wh} {a:A3} {l:List A3} (hl:l=x.l++[a]):(some ((pk x.r rd (x.n:Int),l),()):Option (WW×Unit))=some ((pk x.r rd (x.n:Int),x.l++[a]),()):=by rw [hl]
theorem sets {rd:List Int} {x:Wh} {m:Nat} (h:wok m x) (hm:m≤100) (a v:Int):ref22_set.F (x.w rd,a,v,())=some ((setW x a v).w rd,()):=by
 have hl:=h.l
 show ref22_set.G (x.w rd) a v=_
 unfold ref22_set.G
 by_cases z:0+x.l.length≤0
 ·refine (if_pos z).trans ?_
  refine (if_pos (show 0+x.l.length+1≤268435456 by omega)).trans ?_
  exact set_end (appA x.l (3,a,v))
 ·refine (if_neg z).trans ?_
  refine (if_pos (show 0+x.l.length≤268435456 by omega)).trans ?_
  refine (if_pos (show 0+x.l.length+1≤268435456 by omega)).trans ?_
  exact set_end (appB x.l (3,a,v))
theorem wok.get {rd:List Int} {x:Wh} {m:Nat} (h:wok m x) (k a:Int):wok (m+1) (getW rd x k a):=⟨h.r,by have:=h.n;show x.n+1≤_;omega,by have:=h.l;show (x.l++[_]).length≤_;rw [List.length_append];exact Nat.add_le_add_right this 1⟩
theorem wok.set {x:Wh} {m:Nat} (h:wok m x) (a v:Int):wok (m+1) (setW x a v):=⟨h.r,by have:=h.n;show x.n≤_;omega,by have:=h.l;show (x.l++[_]).length≤_;rw [List.length_append];exact Nat.add_le_add_right this 1⟩
theorem wok.wr {x:Wh} {m:Nat} (h:wok m x) {r:R10} (hr:rok r):wok m (x.wr r):=⟨hr,h.n,h.l⟩
theorem wok.next {rd:List Int} {x:Wh} {m:Nat} (h:wok m x) (k:Int):wok (m+1) (nextW rd x k):=(h.get k (pcR x.r)).wr (setPC_ok h.r (word_mod _))
theorem wok.word {rd:List Int} {x:Wh} {m:Nat} (h:wok m x):wok (m+2) (wordW rd x):=(h.next 2).next 2
theorem wok.pop1 {rd:List Int} {x:Wh} {m:Nat} (h:wok m x):wok (m+1) (pop1 rd x):=(h.get (rd:=rd) 2 (spR x.r)).wr (setSP_ok h.r (word_mod _))
theorem dn_ok {x:Wh} {m:Nat} (h:wok m x):rok (dn x):=setSP_ok h.r (word_mod _)
theorem wok.load {rd:List Int} {x:Wh} {m:Nat} (h:wok m x) (n:Nat):wok (m+1) (loadW rd x n):=by
 unfold loadW
 split
 ·exact h.get _ _
 ·exact ⟨h.r,Nat.le_succ_of_le h.n,Nat.le_succ_of_le h.l⟩
theorem nexts {rd:List Int} {x:Wh} {m:Nat} (h:wok m x) (hm:m≤100) (k:Int):ref22_next.F (x.w rd,k,())=some ((nextW rd x k).w rd,x.v rd,()):=by
 show ref22_next.G ref22_more.F ref22_get.F (x.w rd) k=_
 unfold ref22_next.G
 refine (bind_eq (gets h hm k (pcR x.r))).trans ?_
 exact bind_eq (more_spec h.r.pc (by decide) (by decide))
theorem words {rd:List Int} (hd:∀ v∈rd,byte v) {x:Wh} {m:Nat} (h:wok m x) (hm:m≤98):ref22_word.F (x.w rd,())=some ((wordW rd x).w rd,wordV rd x,()):=by
 show ref22_word.G ref01_Join.F ref22_next.F (x.w rd)=_
 unfold ref22_word.G
 refine (bind_eq (nexts h (by omega) 2)).trans ?_
 refine (bind_eq (nexts (h.next 2) (by omega) 2)).trans ?_
 exact bind_eq (join_spec (mem_byte hd _) (mem_byte hd _))
theorem pushs {rd:List Int} {x:Wh} {m:Nat} (h:wok m x) (hm:m≤98) {v:Int} (hv:word v):ref22_push.F (x.w rd,v,())=some ((pushW x v).w rd,()):=by
 show ref22_push.G ref01_Split.F ref22_more.F ref22_set.F (x.w rd) v=_
 unfold ref22_push.G
 refine (bind_eq (split_spec hv)).trans ?_
 refine (bind_eq (more_spec (w:=spR x.r) h.r.sp (by decide) (by decide))).trans ?_
 have h1:wok m (x.wr (dn x)):=h.wr (dn_ok h)
 refine (bind_eq (sets (x:=x.wr (dn x)) h1 (by omega) ((spR x.r + -1)%65536) (v / 256))).trans ?_
 have h2:=h1.set ((spR x.r + -1)%65536) (v / 256)
 refine (bind_eq (more_spec (w:=spR (dn x)) h2.r.sp (by decide) (by decide))).trans ?_
 have h3:=h2.wr (dn_ok h2)
 exact bind_eq (sets h3 (by omega) ((spR (dn x) + -1)%65536) (v%256))
theorem pops {rd:List Int} (hd:∀ v∈rd,byte v) {x:Wh} {m:Nat} (h:wok m x) (hm:m≤98):ref22_pop.F (x.w rd,())=some ((popW rd x).w rd,popV rd x,()):=by
 show ref22_pop.G ref01_Join.F ref22_more.F ref22_get.F (x.w rd)=_
 unfold ref22_pop.G
 refine (bind_eq (gets h (by omega) 2 (spR x.r))).trans ?_
 refine (bind_eq (more_spec (w:=spR x.r) h.r.sp (by decide) (by decide))).trans ?_
 have h1:wok (m+1) (pop1 rd x):=h.pop1
 refine (bind_eq (gets (x:=pop1 rd x) h1 (by omega) 2 ((spR x.r+1)%65536))).trans ?_
 refine (bind_eq (more_spec (w:=spR (pop1 rd x).r) h1.r.sp (by decide) (by decide))).trans ?_
 exact bind_eq (join_spec (mem_byte hd _) (mem_byte hd _))
theorem twos {rd:List Int} {x:Wh} {m:Nat} (h:wok m x) {n:Nat} (hn:n<5):ref22_two.F (x.w rd,(n:Int),())=some (pairR x.r n,()):=by
 show ref22_two.G ref04_Pair.F (x.w rd) (n:Int)=_
 unfold ref22_two.G
 exact bind_eq (rpair_spec h.r hn)
theorem setTwos {rd:List Int} (x:Wh) {n:Nat} (hn:n<5) {v:Int} (hv:word v):ref22_setTwo.F (x.w rd,(n:Int),v,())=some ((x.wr (putP x.r n v)).w rd,()):=by
 show ref22_setTwo.G ref04_PutPair.F (x.w rd) (n:Int) v=_
 unfold ref22_setTwo.G
 exact bind_eq (rputp_spec x.r hn hv)
theorem loads {rd:List Int} {x:Wh} {m:Nat} (h:wok m x) (hm:m≤100) {n:Nat} (hn:n<8):ref22_load.F (x.w rd,(n:Int),())=some ((loadW rd x n).w rd,loadV rd x n,()):=by
 show ref22_load.G ref04_Get.F ref22_get.F ref22_two.F (x.w rd) (n:Int)=_
 unfold ref22_load.G loadW loadV
 by_cases c:(n:Int)=6
 ·rw [if_pos c,if_pos c]
  refine (if_pos (by rw [c];rfl)).trans ?_
  refine (bind_eq (twos h (n:=2) (by decide))).trans ?_
  exact bind_eq (gets h hm 2 (pairR x.r 2))
 ·rw [if_neg c,if_neg c]
  refine (if_neg (by rw [beq_iff_eq];exact c)).trans ?_
  refine (bind_eq (rget_spec x.r hn)).trans ?_
  rw [if_neg (show ¬n=6 by omega)]
theorem stores {rd:List Int} {x:Wh} {m:Nat} (h:wok m x) (hm:m≤100) {n:Nat} (hn:n<8) (v:Int):ref22_store.F (x.w rd,(n:Int),v,())=some ((storeW x n v).w rd,()):=by
 show ref22_store.G ref04_Put.F ref22_set.F ref22_two.F (x.w rd) (n:Int) v=_
 unfold ref22_store.G storeW
 by_cases c:(n:Int)=6
 ·rw [if_pos c]
  refine (if_pos (by rw [c];rfl)).trans ?_
  refine (bind_eq (twos h (n:=2) (by decide))).trans ?_
  exact bind_eq (sets h hm (pairR x.r 2) v)
 ·rw [if_neg c]
  refine (if_neg (by rw [beq_iff_eq];exact c)).trans ?_
  refine (bind_eq (rputr_spec x.r hn v)).trans ?_
  rw [if_neg (show ¬n=6 by omega)]
  rfl
theorem flaggeds {rd:List Int} (x:Wh) (f:FL):ref22_flagged.F (x.w rd,f,())=some ((x.wr (withF x.r f)).w rd,()):=by
 show ref22_flagged.G ref04_WithFlags.F (x.w rd) f=_
 unfold ref22_flagged.G
 exact bind_eq (rwith_spec x.r f)
theorem returneds {rd:List Int} (hd:∀ v∈rd,byte v) {x:Wh} {m:Nat} (h:wok m x) (hm:m≤98):ref22_returned.F (x.w rd,())=some (((popW rd x).wr (setPC (popW rd x).r (popV rd x))).w rd,popV rd x,()):=by
 show ref22_returned.G ref22_pop.F (x.w rd)=_
 unfold ref22_returned.G
 exact bind_eq (pops hd h hm)
theorem highs {v:Int} (hv:byte v):ref22_high.F (v,())=some (65280+v,()):=by
 show ref22_high.G ref01_Join.F v=_
 unfold ref22_high.G
 exact bind_eq (join_spec (h:=255) ⟨by decide,by decide⟩ hv)
theorem fetcheds {rd:List Int} {x:Wh} {m:Nat} (h:wok m x) (hm:m≤100) (a:Int):ref22_fetched.F (x.w rd,a,())=some ((fetW rd x a).w rd,x.v rd,()):=by
 show ref22_fetched.G ref22_get.F (x.w rd) a=_
 unfold ref22_fetched.G
 exact bind_eq (gets h hm 2 a)
end Go.Proofs.YtmhkjafcfpgikaaGreat.E
