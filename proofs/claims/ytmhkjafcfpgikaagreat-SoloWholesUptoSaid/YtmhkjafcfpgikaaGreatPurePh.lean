/- Functions of the program as plain Lean, and what they come to. Conditions: none. -/
import Derived.Test.YtmhkjafcfpgikaaGreatEwD
import Derived.Test.YtmhkjafcfpgikaaGreatPureCy
open Go Go.Ew
namespace Go.Proofs.YtmhkjafcfpgikaaGreat.E
open Go.IntKind (wrap)
set_option linter.unusedVariables false
set_option linter.unusedSimpArgs false
set_option maxRecDepth 100000
abbrev M3:=Int×Int×Int
abbrev RS:=St×Nat×List A3
def mic (rd:List Int) (p:RS) (m:M3):RS:=
 if m.1=1 then (movS p.1 m (rd.getD p.2.1 0),p.2.1+1,p.2.2++[(2,atS p.1 m.2.1,rd.getD p.2.1 0)])
 else if m.1=2 then (movS p.1 m 0,p.2.1,p.2.2++[(3,atS p.1 m.2.1,valS p.1 m.2.2)])
 else (movS p.1 m 0,p.2.1,p.2.2)
def mics (rd:List Int) (p:RS):List M3→RS
 | []=>p
 | m::l=>mics rd (mic rd p m) l
structure Wh where
 r:R10
 n:Nat
 l:List A3
def getW (rd:List Int) (w:Wh) (k a:Int):Wh:=⟨w.r,w.n+1,w.l++[(k,a,rd.getD w.n 0)]⟩
def setW (w:Wh) (a v:Int):Wh:=⟨w.r,w.n,w.l++[(3,a,v)]⟩
def Wh.v (rd:List Int) (w:Wh):Int:=rd.getD w.n 0
def nextW (rd:List Int) (w:Wh) (k:Int):Wh:=⟨setPC w.r ((pcR w.r+1)%65536),w.n+1,w.l++[(k,pcR w.r,w.v rd)]⟩
def wordW (rd:List Int) (w:Wh):Wh:=nextW rd (nextW rd w 2) 2
def wordV (rd:List Int) (w:Wh):Int:=256*(nextW rd w 2).v rd+w.v rd
def dn (w:Wh):R10:=setSP w.r ((spR w.r + -1)%65536)
def up (w:Wh):R10:=setSP w.r ((spR w.r+1)%65536)
def pushW (w:Wh) (v:Int):Wh:=
 let a:Wh:=⟨dn w,w.n,w.l++[(3,(spR w.r + -1)%65536,v / 256)]⟩
 ⟨dn a,a.n,a.l++[(3,(spR a.r + -1)%65536,v%256)]⟩
def pop1 (rd:List Int) (w:Wh):Wh:=⟨up w,w.n+1,w.l++[(2,spR w.r,w.v rd)]⟩
def popW (rd:List Int) (w:Wh):Wh:=pop1 rd (pop1 rd w)
def popV (rd:List Int) (w:Wh):Int:=256*(pop1 rd w).v rd+w.v rd
def loadW (rd:List Int) (w:Wh) (n:Nat):Wh:=if (n:Int)=6 then getW rd w 2 (pairR w.r 2) else w
def loadV (rd:List Int) (w:Wh) (n:Nat):Int:=if (n:Int)=6 then w.v rd else getR w.r n
def storeW (w:Wh) (n:Nat) (v:Int):Wh:=if (n:Int)=6 then setW w (pairR w.r 2) v else { w with r:=putR w.r n v }
def Wh.wr (w:Wh) (r:R10):Wh:={ w with r:=r }
def fetW (rd:List Int) (w:Wh) (a:Int):Wh:=(getW rd w 2 a).wr (setA w.r (w.v rd))
def wholeS (rd:List Int) (w:Wh) (k:Int) (x y:Nat):Wh:=
 if k=1 then nextW rd w 2 else
 if k=7 then storeW (loadW rd w y) x (loadV rd w y) else
 if k=8 then storeW (nextW rd w 2) x (w.v rd) else
 if k=9 then (if (x:Int)=2 then fetW rd (w.wr (putP w.r 2 ((pairR w.r 2+1)%65536))) (pairR w.r 2) else if (x:Int)=3 then fetW rd (w.wr (putP w.r 2 ((pairR w.r 2 + -1)%65536))) (pairR w.r 2) else fetW rd w (pairR w.r x)) else
 if k=10 then (if (x:Int)=2 then setW (w.wr (putP w.r 2 ((pairR w.r 2+1)%65536))) (pairR w.r 2) w.r.1 else if (x:Int)=3 then setW (w.wr (putP w.r 2 ((pairR w.r 2 + -1)%65536))) (pairR w.r 2) w.r.1 else setW w (pairR w.r x) w.r.1) else
 if k=11 then fetW rd (nextW rd w 2) (65280+w.v rd) else
 if k=12 then setW (nextW rd w 2) (65280+w.v rd) w.r.1 else
 if k=13 then fetW rd w (65280+w.r.2.2.2.1) else
 if k=14 then setW w (65280+w.r.2.2.2.1) w.r.1 else
 if k=15 then fetW rd (wordW rd w) (wordV rd w) else
 if k=16 then setW (wordW rd w) (wordV rd w) w.r.1 else
 if k=17 then (wordW rd w).wr (putP (wordW rd w).r x (wordV rd w)) else
 if k=18 then setW (setW (wordW rd w) (wordV rd w) (spR w.r%256)) ((wordV rd w+1)%65536) (spR w.r / 256) else
 if k=19 then w.wr (setSP w.r (pairR w.r 2)) else
 if k=20 then (fun z:Int×FL=>(nextW rd w 2).wr (withF (putP (nextW rd w 2).r 2 z.1) z.2)) (addeS (spR w.r) (w.v rd)) else
 if k=21 then pushW w (pairR w.r x) else
 if k=22 then (popW rd w).wr (putP (popW rd w).r x (popV rd w)) else
 if k=23 then (fun z:Int×FL=>(loadW rd w y).wr (withF (setA (loadW rd w y).r z.1) z.2)) (doS x (loadW rd w y).r.1 (loadV rd w y) (ofS w.r.2.1)) else
 if k=24 then (fun z:Int×FL=>(nextW rd w 2).wr (withF (setA (nextW rd w 2).r z.1) z.2)) (doS x w.r.1 (w.v rd) (ofS w.r.2.1)) else
 if k=25 then (fun z:Int×FL=>(fun t:Wh=>t.wr (withF t.r z.2)) (storeW (loadW rd w x) x z.1)) (incS (loadV rd w x) (ofS w.r.2.1)) else
 if k=26 then (fun z:Int×FL=>(fun t:Wh=>t.wr (withF t.r z.2)) (storeW (loadW rd w x) x z.1)) (decS (loadV rd w x) (ofS w.r.2.1)) else
 if k=27 then w.wr (putP w.r x ((pairR w.r x+1)%65536)) else
 if k=28 then w.wr (putP w.r x ((pairR w.r x + -1)%65536)) else
 if k=29 then (fun z:Int×FL=>w.wr (withF (putP w.r 2 z.1) z.2)) (addwS (pairR w.r 2) (pairR w.r x) (ofS w.r.2.1)) else
 if k=30 then (fun z:Int×FL=>(nextW rd w 2).wr (withF (setSP (nextW rd w 2).r z.1) z.2)) (addeS (spR w.r) (w.v rd)) else
 if k=31 then (fun z:Int×FL=>w.wr (withF (setA w.r z.1) z.2)) (fastS x w.r.1 (ofS w.r.2.1)) else
 if k=32 then (fun z:Int×FL=>w.wr (withF (setA w.r z.1) z.2)) (daaS w.r.1 (ofS w.r.2.1)) else
 if k=33 then (fun z:Int×FL=>w.wr (withF (setA w.r z.1) z.2)) (cplS w.r.1 (ofS w.r.2.1)) else
 if k=34 then w.wr (withF w.r (scfS (ofS w.r.2.1))) else
 if k=35 then w.wr (withF w.r (ccfS (ofS w.r.2.1))) else
 if k=36 then (if holdS w.r x=true then (nextW rd w 2).wr (setPC w.r ((pcR (nextW rd w 2).r+sgn (w.v rd))%65536)) else nextW rd w 2) else
 if k=37 then (if holdS w.r x=true then (wordW rd w).wr (setPC w.r (wordV rd w)) else wordW rd w) else
 if k=38 then w.wr (setPC w.r (pairR w.r 2)) else
 if k=39 then (if holdS w.r x=true then (fun t:Wh=>t.wr (setPC t.r (wordV rd w))) (pushW (wordW rd w) (pcR (wordW rd w).r)) else wordW rd w) else
 if k=40 then (if holdS w.r x=true then (popW rd w).wr (setPC (popW rd w).r (popV rd w)) else w) else
 if k=41 then (popW rd w).wr (setPC (popW rd w).r (popV rd w)) else
 if k=42 then (fun t:Wh=>t.wr (setPC t.r (wrap .u16 (wrap .i64 (8*(x:Int)))))) (pushW w (pcR w.r)) else
 if k=43 then (fun z:Int×FL=>(fun t:Wh=>t.wr (withF t.r z.2)) (storeW (loadW rd w y) y z.1)) (shS x (loadV rd w y) (ofS w.r.2.1)) else
 if k=44 then (loadW rd w y).wr (withF (loadW rd w y).r (testS x (loadV rd w y) (ofS w.r.2.1))) else
 if k=45 then storeW (loadW rd w y) y (putS (loadV rd w y) x false) else
 if k=46 then storeW (loadW rd w y) y (putS (loadV rd w y) x true) else
 w
theorem st_f (r:R10) (ime arm bug:Bool) (mode op:Int) (cb:Bool) (step lo hi:Int):(⟨r,ime,arm,bug,mode,op,cb,step,lo,hi⟩:St).f=T.formS op cb:=rfl
theorem hold_pc (r:R10) (w n:Int):holdS (setPC r w) n=holdS r n:=rfl
theorem hold_sp (r:R10) (w n:Int):holdS (setSP r w) n=holdS r n:=rfl
def Eqv (rd:List Int) (s:St) (n:Nat) (l:List A3) (k:Int) (x y:Nat):Prop:=
 (fun p:RS=>(endS p.1.z k x y 0).r=(wholeS rd ⟨s.r,n,l⟩ k x y).r∧p.2.2=(wholeS rd ⟨s.r,n,l⟩ k x y).l) (mics rd (s,n,l) (T.planS k x y (holdS s.r x)))
theorem eqv0 (rd:List Int) {s:St} (n:Nat) (l:List A3) {x y:Nat} {u v w:Int} (hf:s.f=(0,(x:Int),(y:Int),u,v,w)):Eqv rd s n l 0 x y:=by
 exact ⟨rfl,rfl⟩
theorem eqv1 (rd:List Int) {s:St} (n:Nat) (l:List A3) {x y:Nat} {u v w:Int} (hf:s.f=(1,(x:Int),(y:Int),u,v,w)):Eqv rd s n l 1 x y:=by
 exact ⟨rfl,rfl⟩
theorem eqv2 (rd:List Int) {s:St} (n:Nat) (l:List A3) {x y:Nat} {u v w:Int} (hf:s.f=(2,(x:Int),(y:Int),u,v,w)):Eqv rd s n l 2 x y:=by
 unfold Eqv wholeS endS
 simp only [Int.reduceEq,↓reduceIte]
 refine ⟨?_,rfl⟩
 split<;>rfl
theorem eqv3 (rd:List Int) {s:St} (n:Nat) (l:List A3) {x y:Nat} {u v w:Int} (hf:s.f=(3,(x:Int),(y:Int),u,v,w)):Eqv rd s n l 3 x y:=by
 exact ⟨rfl,rfl⟩
theorem eqv4 (rd:List Int) {s:St} (n:Nat) (l:List A3) {x y:Nat} {u v w:Int} (hf:s.f=(4,(x:Int),(y:Int),u,v,w)):Eqv rd s n l 4 x y:=by
 exact ⟨rfl,rfl⟩
theorem eqv5 (rd:List Int) {s:St} (n:Nat) (l:List A3) {x y:Nat} {u v w:Int} (hf:s.f=(5,(x:Int),(y:Int),u,v,w)):Eqv rd s n l 5 x y:=by
 exact ⟨rfl,rfl⟩
theorem eqv6 (rd:List Int) {s:St} (n:Nat) (l:List A3) {x y:Nat} {u v w:Int} (hf:s.f=(6,(x:Int),(y:Int),u,v,w)):Eqv rd s n l 6 x y:=by
 exact ⟨rfl,rfl⟩
theorem eqv7 (rd:List Int) {s:St} (n:Nat) (l:List A3) {x y:Nat} {u v w:Int} (hf:s.f=(7,(x:Int),(y:Int),u,v,w)) (hxy:¬((x:Int)=6∧(y:Int)=6)):Eqv rd s n l 7 x y:=by
 have hg:T.formS s.op s.cb=(7,(x:Int),(y:Int),u,v,w):=hf
 unfold Eqv
 rw [show T.planS 7 x y (holdS s.r x)=(if (x:Int)=6 then [(2,2,4)] else if (y:Int)=6 then [(1,2,1)] else []) from rfl]
 by_cases h6:(x:Int)=6
 ·have hy:¬(y:Int)=6:=fun e=>hxy ⟨h6,e⟩
  rw [if_pos h6]
  simp only [mics,mic,endS,wholeS,putx,setp,opnd,storeW,loadW,loadV,getW,setW,Wh.v,Wh.wr,nextW,wordW,wordV,pushW,pop1,popW,popV,dn,up,fetW,altS,valS,atS,movS,plR,St.z,pairx,farS,Int.reduceEq,↓reduceIte,Int.toNat_natCast,false_or,or_false,true_or,or_true,or_self,false_and,and_true,true_and,and_false,hf,hg,st_f,ne_eq,not_false_eq_true,hold_pc,hold_sp,h6,hy]
  all_goals first | trivial | exact ⟨rfl,rfl⟩ | rfl
 ·rw [if_neg h6]
  by_cases hy:(y:Int)=6
  ·rw [if_pos hy]
   simp only [mics,mic,endS,wholeS,putx,setp,opnd,storeW,loadW,loadV,getW,setW,Wh.v,Wh.wr,nextW,wordW,wordV,pushW,pop1,popW,popV,dn,up,fetW,altS,valS,atS,movS,plR,St.z,pairx,farS,Int.reduceEq,↓reduceIte,Int.toNat_natCast,false_or,or_false,true_or,or_true,or_self,false_and,and_true,true_and,and_false,hf,hg,st_f,ne_eq,not_false_eq_true,hold_pc,hold_sp,h6,hy]
   all_goals first | trivial | exact ⟨rfl,rfl⟩ | rfl
  ·rw [if_neg hy]
   simp only [mics,mic,endS,wholeS,putx,setp,opnd,storeW,loadW,loadV,getW,setW,Wh.v,Wh.wr,nextW,wordW,wordV,pushW,pop1,popW,popV,dn,up,fetW,altS,valS,atS,movS,plR,St.z,pairx,farS,Int.reduceEq,↓reduceIte,Int.toNat_natCast,false_or,or_false,true_or,or_true,or_self,false_and,and_true,true_and,and_false,hf,hg,st_f,ne_eq,not_false_eq_true,hold_pc,hold_sp,h6,hy]
   all_goals first | trivial | exact ⟨rfl,rfl⟩ | rfl
theorem eqv8 (rd:List Int) {s:St} (n:Nat) (l:List A3) {x y:Nat} {u v w:Int} (hf:s.f=(8,(x:Int),(y:Int),u,v,w)):Eqv rd s n l 8 x y:=by
 have hg:T.formS s.op s.cb=(8,(x:Int),(y:Int),u,v,w):=hf
 unfold Eqv
 rw [show T.planS 8 x y (holdS s.r x)=(if (x:Int)=6 then [(1,1,1),(2,2,1)] else [(1,1,1)]) from rfl]
 by_cases h6:(x:Int)=6
 ·rw [if_pos h6]
  simp only [mics,mic,endS,wholeS,putx,setp,opnd,storeW,loadW,loadV,getW,setW,Wh.v,Wh.wr,nextW,wordW,wordV,pushW,pop1,popW,popV,dn,up,fetW,altS,valS,atS,movS,plR,St.z,pairx,farS,Int.reduceEq,↓reduceIte,Int.toNat_natCast,false_or,or_false,true_or,or_true,or_self,false_and,and_true,true_and,and_false,hf,hg,st_f,ne_eq,not_false_eq_true,hold_pc,hold_sp,h6]
  all_goals first | trivial | exact ⟨rfl,rfl⟩ | rfl
 ·rw [if_neg h6]
  simp only [mics,mic,endS,wholeS,putx,setp,opnd,storeW,loadW,loadV,getW,setW,Wh.v,Wh.wr,nextW,wordW,wordV,pushW,pop1,popW,popV,dn,up,fetW,altS,valS,atS,movS,plR,St.z,pairx,farS,Int.reduceEq,↓reduceIte,Int.toNat_natCast,false_or,or_false,true_or,or_true,or_self,false_and,and_true,true_and,and_false,hf,hg,st_f,ne_eq,not_false_eq_true,hold_pc,hold_sp,h6]
  all_goals first | trivial | exact ⟨rfl,rfl⟩ | rfl
theorem eqv9 (rd:List Int) {s:St} (n:Nat) (l:List A3) {x y:Nat} {u v w:Int} (hf:s.f=(9,(x:Int),(y:Int),u,v,w)) (hx:x<4):Eqv rd s n l 9 x y:=by
 obtain rfl | rfl | rfl | rfl:x=0∨x=1∨x=2∨x=3:=by omega
 all_goals exact ⟨rfl,rfl⟩
theorem eqv10 (rd:List Int) {s:St} (n:Nat) (l:List A3) {x y:Nat} {u v w:Int} (hf:s.f=(10,(x:Int),(y:Int),u,v,w)) (hx:x<4):Eqv rd s n l 10 x y:=by
 obtain rfl | rfl | rfl | rfl:x=0∨x=1∨x=2∨x=3:=by omega
 all_goals exact ⟨rfl,rfl⟩
theorem eqv11 (rd:List Int) {s:St} (n:Nat) (l:List A3) {x y:Nat} {u v w:Int} (hf:s.f=(11,(x:Int),(y:Int),u,v,w)):Eqv rd s n l 11 x y:=by
 exact ⟨rfl,rfl⟩
theorem eqv12 (rd:List Int) {s:St} (n:Nat) (l:List A3) {x y:Nat} {u v w:Int} (hf:s.f=(12,(x:Int),(y:Int),u,v,w)):Eqv rd s n l 12 x y:=by
 exact ⟨rfl,rfl⟩
theorem eqv13 (rd:List Int) {s:St} (n:Nat) (l:List A3) {x y:Nat} {u v w:Int} (hf:s.f=(13,(x:Int),(y:Int),u,v,w)):Eqv rd s n l 13 x y:=by
 exact ⟨rfl,rfl⟩
theorem eqv14 (rd:List Int) {s:St} (n:Nat) (l:List A3) {x y:Nat} {u v w:Int} (hf:s.f=(14,(x:Int),(y:Int),u,v,w)):Eqv rd s n l 14 x y:=by
 exact ⟨rfl,rfl⟩
theorem eqv15 (rd:List Int) {s:St} (n:Nat) (l:List A3) {x y:Nat} {u v w:Int} (hf:s.f=(15,(x:Int),(y:Int),u,v,w)):Eqv rd s n l 15 x y:=by
 exact ⟨rfl,rfl⟩
theorem eqv16 (rd:List Int) {s:St} (n:Nat) (l:List A3) {x y:Nat} {u v w:Int} (hf:s.f=(16,(x:Int),(y:Int),u,v,w)):Eqv rd s n l 16 x y:=by
 exact ⟨rfl,rfl⟩
theorem eqv17 (rd:List Int) {s:St} (n:Nat) (l:List A3) {x y:Nat} {u v w:Int} (hf:s.f=(17,(x:Int),(y:Int),u,v,w)):Eqv rd s n l 17 x y:=by
 exact ⟨rfl,rfl⟩
theorem eqv18 (rd:List Int) {s:St} (n:Nat) (l:List A3) {x y:Nat} {u v w:Int} (hf:s.f=(18,(x:Int),(y:Int),u,v,w)):Eqv rd s n l 18 x y:=by
 exact ⟨rfl,rfl⟩
theorem eqv19 (rd:List Int) {s:St} (n:Nat) (l:List A3) {x y:Nat} {u v w:Int} (hf:s.f=(19,(x:Int),(y:Int),u,v,w)):Eqv rd s n l 19 x y:=by
 exact ⟨rfl,rfl⟩
theorem eqv20 (rd:List Int) {s:St} (n:Nat) (l:List A3) {x y:Nat} {u v w:Int} (hf:s.f=(20,(x:Int),(y:Int),u,v,w)):Eqv rd s n l 20 x y:=by
 exact ⟨rfl,rfl⟩
theorem eqv21 (rd:List Int) {s:St} (n:Nat) (l:List A3) {x y:Nat} {u v w:Int} (hf:s.f=(21,(x:Int),(y:Int),u,v,w)) (hx:x<5) (h3:x≠3):Eqv rd s n l 21 x y:=by
 have hg:T.formS s.op s.cb=(21,(x:Int),(y:Int),u,v,w):=hf
 unfold Eqv
 obtain rfl | rfl | rfl | rfl:x=0∨x=1∨x=2∨x=4:=by omega
 all_goals
  rw [show ∀ a t,T.planS 21 a y t=[(0,0,0),(2,11,10),(2,11,11)] from fun _ _=>rfl]
  simp only [mics,mic,endS,wholeS,putx,setp,opnd,storeW,loadW,loadV,getW,setW,Wh.v,Wh.wr,nextW,wordW,wordV,pushW,pop1,popW,popV,dn,up,fetW,altS,valS,atS,movS,plR,St.z,pairx,farS,Int.reduceEq,↓reduceIte,Int.toNat_natCast,false_or,or_false,true_or,or_true,or_self,false_and,and_true,true_and,and_false,hf,hg,st_f,ne_eq,not_false_eq_true,hold_pc,hold_sp]
  all_goals first | trivial | exact ⟨rfl,rfl⟩ | rfl
theorem eqv22 (rd:List Int) {s:St} (n:Nat) (l:List A3) {x y:Nat} {u v w:Int} (hf:s.f=(22,(x:Int),(y:Int),u,v,w)):Eqv rd s n l 22 x y:=by
 exact ⟨rfl,rfl⟩
theorem eqv23 (rd:List Int) {s:St} (n:Nat) (l:List A3) {x y:Nat} {u v w:Int} (hf:s.f=(23,(x:Int),(y:Int),u,v,w)):Eqv rd s n l 23 x y:=by
 have hg:T.formS s.op s.cb=(23,(x:Int),(y:Int),u,v,w):=hf
 unfold Eqv
 rw [show T.planS 23 x y (holdS s.r x)=(if (y:Int)=6 then [(1,2,1)] else []) from rfl]
 by_cases h6:(y:Int)=6
 ·rw [if_pos h6]
  simp only [mics,mic,endS,wholeS,putx,setp,opnd,storeW,loadW,loadV,getW,setW,Wh.v,Wh.wr,nextW,wordW,wordV,pushW,pop1,popW,popV,dn,up,fetW,altS,valS,atS,movS,plR,St.z,pairx,farS,Int.reduceEq,↓reduceIte,Int.toNat_natCast,false_or,or_false,true_or,or_true,or_self,false_and,and_true,true_and,and_false,hf,hg,st_f,ne_eq,not_false_eq_true,hold_pc,hold_sp,h6]
  all_goals first | trivial | exact ⟨rfl,rfl⟩ | rfl
 ·rw [if_neg h6]
  simp only [mics,mic,endS,wholeS,putx,setp,opnd,storeW,loadW,loadV,getW,setW,Wh.v,Wh.wr,nextW,wordW,wordV,pushW,pop1,popW,popV,dn,up,fetW,altS,valS,atS,movS,plR,St.z,pairx,farS,Int.reduceEq,↓reduceIte,Int.toNat_natCast,false_or,or_false,true_or,or_true,or_self,false_and,and_true,true_and,and_false,hf,hg,st_f,ne_eq,not_false_eq_true,hold_pc,hold_sp,h6]
  all_goals first | trivial | exact ⟨rfl,rfl⟩ | rfl
theorem eqv24 (rd:List Int) {s:St} (n:Nat) (l:List A3) {x y:Nat} {u v w:Int} (hf:s.f=(24,(x:Int),(y:Int),u,v,w)):Eqv rd s n l 24 x y:=by
 exact ⟨rfl,rfl⟩
theorem eqv25 (rd:List Int) {s:St} (n:Nat) (l:List A3) {x y:Nat} {u v w:Int} (hf:s.f=(25,(x:Int),(y:Int),u,v,w)):Eqv rd s n l 25 x y:=by
 have hg:T.formS s.op s.cb=(25,(x:Int),(y:Int),u,v,w):=hf
 unfold Eqv
 rw [show T.planS 25 x y (holdS s.r x)=(if (x:Int)=6 then [(1,2,1),(2,2,9)] else []) from rfl]
 by_cases h6:(x:Int)=6
 ·rw [if_pos h6]
  simp only [mics,mic,endS,wholeS,putx,setp,opnd,storeW,loadW,loadV,getW,setW,Wh.v,Wh.wr,nextW,wordW,wordV,pushW,pop1,popW,popV,dn,up,fetW,altS,valS,atS,movS,plR,St.z,pairx,farS,Int.reduceEq,↓reduceIte,Int.toNat_natCast,false_or,or_false,true_or,or_true,or_self,false_and,and_true,true_and,and_false,hf,hg,st_f,ne_eq,not_false_eq_true,hold_pc,hold_sp,h6]
  all_goals first | trivial | exact ⟨rfl,rfl⟩ | rfl
 ·rw [if_neg h6]
  simp only [mics,mic,endS,wholeS,putx,setp,opnd,storeW,loadW,loadV,getW,setW,Wh.v,Wh.wr,nextW,wordW,wordV,pushW,pop1,popW,popV,dn,up,fetW,altS,valS,atS,movS,plR,St.z,pairx,farS,Int.reduceEq,↓reduceIte,Int.toNat_natCast,false_or,or_false,true_or,or_true,or_self,false_and,and_true,true_and,and_false,hf,hg,st_f,ne_eq,not_false_eq_true,hold_pc,hold_sp,h6]
  all_goals first | trivial | exact ⟨rfl,rfl⟩ | rfl
theorem eqv26 (rd:List Int) {s:St} (n:Nat) (l:List A3) {x y:Nat} {u v w:Int} (hf:s.f=(26,(x:Int),(y:Int),u,v,w)):Eqv rd s n l 26 x y:=by
 have hg:T.formS s.op s.cb=(26,(x:Int),(y:Int),u,v,w):=hf
 unfold Eqv
 rw [show T.planS 26 x y (holdS s.r x)=(if (x:Int)=6 then [(1,2,1),(2,2,9)] else []) from rfl]
 by_cases h6:(x:Int)=6
 ·rw [if_pos h6]
  simp only [mics,mic,endS,wholeS,putx,setp,opnd,storeW,loadW,loadV,getW,setW,Wh.v,Wh.wr,nextW,wordW,wordV,pushW,pop1,popW,popV,dn,up,fetW,altS,valS,atS,movS,plR,St.z,pairx,farS,Int.reduceEq,↓reduceIte,Int.toNat_natCast,false_or,or_false,true_or,or_true,or_self,false_and,and_true,true_and,and_false,hf,hg,st_f,ne_eq,not_false_eq_true,hold_pc,hold_sp,h6]
  all_goals first | trivial | exact ⟨rfl,rfl⟩ | rfl
 ·rw [if_neg h6]
  simp only [mics,mic,endS,wholeS,putx,setp,opnd,storeW,loadW,loadV,getW,setW,Wh.v,Wh.wr,nextW,wordW,wordV,pushW,pop1,popW,popV,dn,up,fetW,altS,valS,atS,movS,plR,St.z,pairx,farS,Int.reduceEq,↓reduceIte,Int.toNat_natCast,false_or,or_false,true_or,or_true,or_self,false_and,and_true,true_and,and_false,hf,hg,st_f,ne_eq,not_false_eq_true,hold_pc,hold_sp,h6]
  all_goals first | trivial | exact ⟨rfl,rfl⟩ | rfl
theorem eqv27 (rd:List Int) {s:St} (n:Nat) (l:List A3) {x y:Nat} {u v w:Int} (hf:s.f=(27,(x:Int),(y:Int),u,v,w)):Eqv rd s n l 27 x y:=by
 exact ⟨rfl,rfl⟩
theorem eqv28 (rd:List Int) {s:St} (n:Nat) (l:List A3) {x y:Nat} {u v w:Int} (hf:s.f=(28,(x:Int),(y:Int),u,v,w)):Eqv rd s n l 28 x y:=by
 exact ⟨rfl,rfl⟩
theorem eqv29 (rd:List Int) {s:St} (n:Nat) (l:List A3) {x y:Nat} {u v w:Int} (hf:s.f=(29,(x:Int),(y:Int),u,v,w)):Eqv rd s n l 29 x y:=by
 exact ⟨rfl,rfl⟩
theorem eqv30 (rd:List Int) {s:St} (n:Nat) (l:List A3) {x y:Nat} {u v w:Int} (hf:s.f=(30,(x:Int),(y:Int),u,v,w)):Eqv rd s n l 30 x y:=by
 exact ⟨rfl,rfl⟩
theorem eqv31 (rd:List Int) {s:St} (n:Nat) (l:List A3) {x y:Nat} {u v w:Int} (hf:s.f=(31,(x:Int),(y:Int),u,v,w)):Eqv rd s n l 31 x y:=by
 exact ⟨rfl,rfl⟩
theorem eqv32 (rd:List Int) {s:St} (n:Nat) (l:List A3) {x y:Nat} {u v w:Int} (hf:s.f=(32,(x:Int),(y:Int),u,v,w)):Eqv rd s n l 32 x y:=by
 exact ⟨rfl,rfl⟩
theorem eqv33 (rd:List Int) {s:St} (n:Nat) (l:List A3) {x y:Nat} {u v w:Int} (hf:s.f=(33,(x:Int),(y:Int),u,v,w)):Eqv rd s n l 33 x y:=by
 exact ⟨rfl,rfl⟩
theorem eqv34 (rd:List Int) {s:St} (n:Nat) (l:List A3) {x y:Nat} {u v w:Int} (hf:s.f=(34,(x:Int),(y:Int),u,v,w)):Eqv rd s n l 34 x y:=by
 exact ⟨rfl,rfl⟩
theorem eqv35 (rd:List Int) {s:St} (n:Nat) (l:List A3) {x y:Nat} {u v w:Int} (hf:s.f=(35,(x:Int),(y:Int),u,v,w)):Eqv rd s n l 35 x y:=by
 exact ⟨rfl,rfl⟩
theorem eqv36 (rd:List Int) {s:St} (n:Nat) (l:List A3) {x y:Nat} {u v w:Int} (hf:s.f=(36,(x:Int),(y:Int),u,v,w)):Eqv rd s n l 36 x y:=by
 have hg:T.formS s.op s.cb=(36,(x:Int),(y:Int),u,v,w):=hf
 unfold Eqv
 rw [show T.planS 36 x y (holdS s.r x)=(if holdS s.r x=true∨(x:Int)=4 then [(1,1,1),(0,0,0)] else [(1,1,1)]) from rfl]
 by_cases hh:holdS s.r x=true
 ·rw [if_pos (.inl hh)]
  simp only [mics,mic,endS,wholeS,putx,setp,opnd,storeW,loadW,loadV,getW,setW,Wh.v,Wh.wr,nextW,wordW,wordV,pushW,pop1,popW,popV,dn,up,fetW,altS,valS,atS,movS,plR,St.z,pairx,farS,Int.reduceEq,↓reduceIte,Int.toNat_natCast,false_or,or_false,true_or,or_true,or_self,false_and,and_true,true_and,and_false,hf,hg,st_f,ne_eq,not_false_eq_true,hold_pc,hold_sp,hh]
  all_goals first | trivial | exact ⟨rfl,rfl⟩ | rfl
 ·have h4:¬(x:Int)=4:=fun e=>hh (by rw [e];rfl)
  rw [if_neg (fun z=>z.elim hh h4)]
  simp only [mics,mic,endS,wholeS,putx,setp,opnd,storeW,loadW,loadV,getW,setW,Wh.v,Wh.wr,nextW,wordW,wordV,pushW,pop1,popW,popV,dn,up,fetW,altS,valS,atS,movS,plR,St.z,pairx,farS,Int.reduceEq,↓reduceIte,Int.toNat_natCast,false_or,or_false,true_or,or_true,or_self,false_and,and_true,true_and,and_false,hf,hg,st_f,ne_eq,not_false_eq_true,hold_pc,hold_sp,hh]
  all_goals first | trivial | exact ⟨rfl,rfl⟩ | rfl
theorem eqv37 (rd:List Int) {s:St} (n:Nat) (l:List A3) {x y:Nat} {u v w:Int} (hf:s.f=(37,(x:Int),(y:Int),u,v,w)):Eqv rd s n l 37 x y:=by
 have hg:T.formS s.op s.cb=(37,(x:Int),(y:Int),u,v,w):=hf
 unfold Eqv
 rw [show T.planS 37 x y (holdS s.r x)=(if holdS s.r x=true∨(x:Int)=4 then [(1,1,1),(1,1,2),(0,0,0)] else [(1,1,1),(1,1,2)]) from rfl]
 by_cases hh:holdS s.r x=true
 ·rw [if_pos (.inl hh)]
  simp only [mics,mic,endS,wholeS,putx,setp,opnd,storeW,loadW,loadV,getW,setW,Wh.v,Wh.wr,nextW,wordW,wordV,pushW,pop1,popW,popV,dn,up,fetW,altS,valS,atS,movS,plR,St.z,pairx,farS,Int.reduceEq,↓reduceIte,Int.toNat_natCast,false_or,or_false,true_or,or_true,or_self,false_and,and_true,true_and,and_false,hf,hg,st_f,ne_eq,not_false_eq_true,hold_pc,hold_sp,hh]
  all_goals first | trivial | exact ⟨rfl,rfl⟩ | rfl
 ·have h4:¬(x:Int)=4:=fun e=>hh (by rw [e];rfl)
  rw [if_neg (fun z=>z.elim hh h4)]
  simp only [mics,mic,endS,wholeS,putx,setp,opnd,storeW,loadW,loadV,getW,setW,Wh.v,Wh.wr,nextW,wordW,wordV,pushW,pop1,popW,popV,dn,up,fetW,altS,valS,atS,movS,plR,St.z,pairx,farS,Int.reduceEq,↓reduceIte,Int.toNat_natCast,false_or,or_false,true_or,or_true,or_self,false_and,and_true,true_and,and_false,hf,hg,st_f,ne_eq,not_false_eq_true,hold_pc,hold_sp,hh]
  all_goals first | trivial | exact ⟨rfl,rfl⟩ | rfl
theorem eqv38 (rd:List Int) {s:St} (n:Nat) (l:List A3) {x y:Nat} {u v w:Int} (hf:s.f=(38,(x:Int),(y:Int),u,v,w)):Eqv rd s n l 38 x y:=by
 exact ⟨rfl,rfl⟩
theorem eqv39 (rd:List Int) {s:St} (n:Nat) (l:List A3) {x y:Nat} {u v w:Int} (hf:s.f=(39,(x:Int),(y:Int),u,v,w)):Eqv rd s n l 39 x y:=by
 have hg:T.formS s.op s.cb=(39,(x:Int),(y:Int),u,v,w):=hf
 unfold Eqv
 rw [show T.planS 39 x y (holdS s.r x)=(if holdS s.r x=true∨(x:Int)=4 then [(1,1,1),(1,1,2),(0,0,0),(2,11,8),(2,11,7)] else [(1,1,1),(1,1,2)]) from rfl]
 by_cases hh:holdS s.r x=true
 ·rw [if_pos (.inl hh)]
  simp only [mics,mic,endS,wholeS,putx,setp,opnd,storeW,loadW,loadV,getW,setW,Wh.v,Wh.wr,nextW,wordW,wordV,pushW,pop1,popW,popV,dn,up,fetW,altS,valS,atS,movS,plR,St.z,pairx,farS,Int.reduceEq,↓reduceIte,Int.toNat_natCast,false_or,or_false,true_or,or_true,or_self,false_and,and_true,true_and,and_false,hf,hg,st_f,ne_eq,not_false_eq_true,hold_pc,hold_sp,hh]
  all_goals first | trivial | exact ⟨rfl,rfl⟩ | rfl
 ·have h4:¬(x:Int)=4:=fun e=>hh (by rw [e];rfl)
  rw [if_neg (fun z=>z.elim hh h4)]
  simp only [mics,mic,endS,wholeS,putx,setp,opnd,storeW,loadW,loadV,getW,setW,Wh.v,Wh.wr,nextW,wordW,wordV,pushW,pop1,popW,popV,dn,up,fetW,altS,valS,atS,movS,plR,St.z,pairx,farS,Int.reduceEq,↓reduceIte,Int.toNat_natCast,false_or,or_false,true_or,or_true,or_self,false_and,and_true,true_and,and_false,hf,hg,st_f,ne_eq,not_false_eq_true,hold_pc,hold_sp,hh]
  all_goals first | trivial | exact ⟨rfl,rfl⟩ | rfl
theorem eqv40 (rd:List Int) {s:St} (n:Nat) (l:List A3) {x y:Nat} {u v w:Int} (hf:s.f=(40,(x:Int),(y:Int),u,v,w)):Eqv rd s n l 40 x y:=by
 have hg:T.formS s.op s.cb=(40,(x:Int),(y:Int),u,v,w):=hf
 unfold Eqv
 rw [show T.planS 40 x y (holdS s.r x)=(if (x:Int)=4 then [(1,12,1),(1,12,2),(0,0,0)] else if holdS s.r x=true then [(0,0,0),(1,12,1),(1,12,2),(0,0,0)] else [(0,0,0)]) from rfl]
 by_cases h4:(x:Int)=4
 ·have hh:holdS s.r x=true:=by rw [h4];rfl
  rw [if_pos h4]
  simp only [mics,mic,endS,wholeS,putx,setp,opnd,storeW,loadW,loadV,getW,setW,Wh.v,Wh.wr,nextW,wordW,wordV,pushW,pop1,popW,popV,dn,up,fetW,altS,valS,atS,movS,plR,St.z,pairx,farS,Int.reduceEq,↓reduceIte,Int.toNat_natCast,false_or,or_false,true_or,or_true,or_self,false_and,and_true,true_and,and_false,hf,hg,st_f,ne_eq,not_false_eq_true,hold_pc,hold_sp,hh]
  all_goals first | trivial | exact ⟨rfl,rfl⟩ | rfl
 ·rw [if_neg h4]
  by_cases hh:holdS s.r x=true
  ·rw [if_pos hh]
   simp only [mics,mic,endS,wholeS,putx,setp,opnd,storeW,loadW,loadV,getW,setW,Wh.v,Wh.wr,nextW,wordW,wordV,pushW,pop1,popW,popV,dn,up,fetW,altS,valS,atS,movS,plR,St.z,pairx,farS,Int.reduceEq,↓reduceIte,Int.toNat_natCast,false_or,or_false,true_or,or_true,or_self,false_and,and_true,true_and,and_false,hf,hg,st_f,ne_eq,not_false_eq_true,hold_pc,hold_sp,hh]
   all_goals first | trivial | exact ⟨rfl,rfl⟩ | rfl
  ·rw [if_neg hh]
   simp only [mics,mic,endS,wholeS,putx,setp,opnd,storeW,loadW,loadV,getW,setW,Wh.v,Wh.wr,nextW,wordW,wordV,pushW,pop1,popW,popV,dn,up,fetW,altS,valS,atS,movS,plR,St.z,pairx,farS,Int.reduceEq,↓reduceIte,Int.toNat_natCast,false_or,or_false,true_or,or_true,or_self,false_and,and_true,true_and,and_false,hf,hg,st_f,ne_eq,not_false_eq_true,hold_pc,hold_sp,hh]
   all_goals first | trivial | exact ⟨rfl,rfl⟩ | rfl
theorem eqv41 (rd:List Int) {s:St} (n:Nat) (l:List A3) {x y:Nat} {u v w:Int} (hf:s.f=(41,(x:Int),(y:Int),u,v,w)):Eqv rd s n l 41 x y:=by
 exact ⟨rfl,rfl⟩
theorem eqv42 (rd:List Int) {s:St} (n:Nat) (l:List A3) {x y:Nat} {u v w:Int} (hf:s.f=(42,(x:Int),(y:Int),u,v,w)):Eqv rd s n l 42 x y:=by
 exact ⟨rfl,rfl⟩
theorem eqv43 (rd:List Int) {s:St} (n:Nat) (l:List A3) {x y:Nat} {u v w:Int} (hf:s.f=(43,(x:Int),(y:Int),u,v,w)):Eqv rd s n l 43 x y:=by
 have hg:T.formS s.op s.cb=(43,(x:Int),(y:Int),u,v,w):=hf
 unfold Eqv
 rw [show T.planS 43 x y (holdS s.r x)=(if (y:Int)=6 then [(1,2,1),(2,2,9)] else []) from rfl]
 by_cases h6:(y:Int)=6
 ·rw [if_pos h6]
  simp only [mics,mic,endS,wholeS,putx,setp,opnd,storeW,loadW,loadV,getW,setW,Wh.v,Wh.wr,nextW,wordW,wordV,pushW,pop1,popW,popV,dn,up,fetW,altS,valS,atS,movS,plR,St.z,pairx,farS,Int.reduceEq,↓reduceIte,Int.toNat_natCast,false_or,or_false,true_or,or_true,or_self,false_and,and_true,true_and,and_false,hf,hg,st_f,ne_eq,not_false_eq_true,hold_pc,hold_sp,h6]
  all_goals first | trivial | exact ⟨rfl,rfl⟩ | rfl
 ·rw [if_neg h6]
  simp only [mics,mic,endS,wholeS,putx,setp,opnd,storeW,loadW,loadV,getW,setW,Wh.v,Wh.wr,nextW,wordW,wordV,pushW,pop1,popW,popV,dn,up,fetW,altS,valS,atS,movS,plR,St.z,pairx,farS,Int.reduceEq,↓reduceIte,Int.toNat_natCast,false_or,or_false,true_or,or_true,or_self,false_and,and_true,true_and,and_false,hf,hg,st_f,ne_eq,not_false_eq_true,hold_pc,hold_sp,h6]
  all_goals first | trivial | exact ⟨rfl,rfl⟩ | rfl
theorem eqv44 (rd:List Int) {s:St} (n:Nat) (l:List A3) {x y:Nat} {u v w:Int} (hf:s.f=(44,(x:Int),(y:Int),u,v,w)):Eqv rd s n l 44 x y:=by
 have hg:T.formS s.op s.cb=(44,(x:Int),(y:Int),u,v,w):=hf
 unfold Eqv
 rw [show T.planS 44 x y (holdS s.r x)=(if (y:Int)=6 then [(1,2,1)] else []) from rfl]
 by_cases h6:(y:Int)=6
 ·rw [if_pos h6]
  simp only [mics,mic,endS,wholeS,putx,setp,opnd,storeW,loadW,loadV,getW,setW,Wh.v,Wh.wr,nextW,wordW,wordV,pushW,pop1,popW,popV,dn,up,fetW,altS,valS,atS,movS,plR,St.z,pairx,farS,Int.reduceEq,↓reduceIte,Int.toNat_natCast,false_or,or_false,true_or,or_true,or_self,false_and,and_true,true_and,and_false,hf,hg,st_f,ne_eq,not_false_eq_true,hold_pc,hold_sp,h6]
  all_goals first | trivial | exact ⟨rfl,rfl⟩ | rfl
 ·rw [if_neg h6]
  simp only [mics,mic,endS,wholeS,putx,setp,opnd,storeW,loadW,loadV,getW,setW,Wh.v,Wh.wr,nextW,wordW,wordV,pushW,pop1,popW,popV,dn,up,fetW,altS,valS,atS,movS,plR,St.z,pairx,farS,Int.reduceEq,↓reduceIte,Int.toNat_natCast,false_or,or_false,true_or,or_true,or_self,false_and,and_true,true_and,and_false,hf,hg,st_f,ne_eq,not_false_eq_true,hold_pc,hold_sp,h6]
  all_goals first | trivial | exact ⟨rfl,rfl⟩ | rfl
theorem eqv45 (rd:List Int) {s:St} (n:Nat) (l:List A3) {x y:Nat} {u v w:Int} (hf:s.f=(45,(x:Int),(y:Int),u,v,w)):Eqv rd s n l 45 x y:=by
 have hg:T.formS s.op s.cb=(45,(x:Int),(y:Int),u,v,w):=hf
 unfold Eqv
 rw [show T.planS 45 x y (holdS s.r x)=(if (y:Int)=6 then [(1,2,1),(2,2,9)] else []) from rfl]
 by_cases h6:(y:Int)=6
 ·rw [if_pos h6]
  simp only [mics,mic,endS,wholeS,putx,setp,opnd,storeW,loadW,loadV,getW,setW,Wh.v,Wh.wr,nextW,wordW,wordV,pushW,pop1,popW,popV,dn,up,fetW,altS,valS,atS,movS,plR,St.z,pairx,farS,Int.reduceEq,↓reduceIte,Int.toNat_natCast,false_or,or_false,true_or,or_true,or_self,false_and,and_true,true_and,and_false,hf,hg,st_f,ne_eq,not_false_eq_true,hold_pc,hold_sp,h6]
  all_goals first | trivial | exact ⟨rfl,rfl⟩ | rfl
 ·rw [if_neg h6]
  simp only [mics,mic,endS,wholeS,putx,setp,opnd,storeW,loadW,loadV,getW,setW,Wh.v,Wh.wr,nextW,wordW,wordV,pushW,pop1,popW,popV,dn,up,fetW,altS,valS,atS,movS,plR,St.z,pairx,farS,Int.reduceEq,↓reduceIte,Int.toNat_natCast,false_or,or_false,true_or,or_true,or_self,false_and,and_true,true_and,and_false,hf,hg,st_f,ne_eq,not_false_eq_true,hold_pc,hold_sp,h6]
  all_goals first | trivial | exact ⟨rfl,rfl⟩ | rfl
theorem eqv46 (rd:List Int) {s:St} (n:Nat) (l:List A3) {x y:Nat} {u v w:Int} (hf:s.f=(46,(x:Int),(y:Int),u,v,w)):Eqv rd s n l 46 x y:=by
 have hg:T.formS s.op s.cb=(46,(x:Int),(y:Int),u,v,w):=hf
 unfold Eqv
 rw [show T.planS 46 x y (holdS s.r x)=(if (y:Int)=6 then [(1,2,1),(2,2,9)] else []) from rfl]
 by_cases h6:(y:Int)=6
 ·rw [if_pos h6]
  simp only [mics,mic,endS,wholeS,putx,setp,opnd,storeW,loadW,loadV,getW,setW,Wh.v,Wh.wr,nextW,wordW,wordV,pushW,pop1,popW,popV,dn,up,fetW,altS,valS,atS,movS,plR,St.z,pairx,farS,Int.reduceEq,↓reduceIte,Int.toNat_natCast,false_or,or_false,true_or,or_true,or_self,false_and,and_true,true_and,and_false,hf,hg,st_f,ne_eq,not_false_eq_true,hold_pc,hold_sp,h6]
  all_goals first | trivial | exact ⟨rfl,rfl⟩ | rfl
 ·rw [if_neg h6]
  simp only [mics,mic,endS,wholeS,putx,setp,opnd,storeW,loadW,loadV,getW,setW,Wh.v,Wh.wr,nextW,wordW,wordV,pushW,pop1,popW,popV,dn,up,fetW,altS,valS,atS,movS,plR,St.z,pairx,farS,Int.reduceEq,↓reduceIte,Int.toNat_natCast,false_or,or_false,true_or,or_true,or_self,false_and,and_true,true_and,and_false,hf,hg,st_f,ne_eq,not_false_eq_true,hold_pc,hold_sp,h6]
  all_goals first | trivial | exact ⟨rfl,rfl⟩ | rfl
end Go.Proofs.YtmhkjafcfpgikaaGreat.E
