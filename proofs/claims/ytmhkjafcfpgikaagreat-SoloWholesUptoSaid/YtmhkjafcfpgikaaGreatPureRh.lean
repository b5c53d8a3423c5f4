/- Functions of the program as plain Lean, and what they come to. Conditions: none. -/
import Derived.Test.YtmhkjafcfpgikaaGreatEwD
import Derived.Test.YtmhkjafcfpgikaaGreatPureSh
open Go Go.Ew
namespace Go.Proofs.YtmhkjafcfpgikaaGreat.E
open Go.IntKind (wrap)
set_option linter.unusedVariables false
set_option linter.unusedSimpArgs false
set_option maxRecDepth 100000
theorem loadV_ok {rd:List Int} (hd:∀ v∈rd,byte v) {x:Wh} {m:Nat} (h:wok m x) (n:Nat):byte (loadV rd x n):=by
 unfold loadV
 split
 ·exact mem_byte hd _
 ·exact getR_ok h.r _
theorem v_ok {rd:List Int} (hd:∀ v∈rd,byte v) (x:Wh):byte (x.v rd):=mem_byte hd _
theorem wv_ok {rd:List Int} (hd:∀ v∈rd,byte v) (x:Wh):word (wordV rd x):=by
 have a:=v_ok hd x
 have b:=v_ok hd (nextW rd x 2)
 unfold wordV
 exact ⟨by have:=a.1;have:=b.1;omega,by have:=a.2;have:=b.2;omega⟩
theorem pv_ok {rd:List Int} (hd:∀ v∈rd,byte v) (x:Wh):word (popV rd x):=by
 have a:=v_ok hd x
 have b:=v_ok hd (pop1 rd x)
 unfold popV
 exact ⟨by have:=a.1;have:=b.1;omega,by have:=a.2;have:=b.2;omega⟩
theorem through9_0 {rd:List Int} (hd:∀ v∈rd,byte v) {x:Wh} {m:Nat} (h:wok m x) (hm:m≤90) {Y:Nat} (hY:Y<8) (u v w:Int):ref22_through.F (x.w rd,(9,((0:Nat):Int),(Y:Int),u,v,w),())=some ((wholeS rd x 9 0 Y).w rd,()):=by
 unfold ref22_through.F ref22_through.C ref22_through.G
 refine (if_neg (show ¬decide ((0:Int)>2)=true by decide)).trans ?_
 refine (bind_eq (twos h (n:=0) (by decide))).trans ?_
 refine (if_neg (show ¬((0:Int)==2)=true by decide)).trans ?_
 refine (if_neg (show ¬((0:Int)==3)=true by decide)).trans ?_
 refine (if_neg (show ¬((9:Int)==10)=true by decide)).trans ?_
 exact bind_eq (fetcheds h (by omega) _)
theorem through9_1 {rd:List Int} (hd:∀ v∈rd,byte v) {x:Wh} {m:Nat} (h:wok m x) (hm:m≤90) {Y:Nat} (hY:Y<8) (u v w:Int):ref22_through.F (x.w rd,(9,((1:Nat):Int),(Y:Int),u,v,w),())=some ((wholeS rd x 9 1 Y).w rd,()):=by
 unfold ref22_through.F ref22_through.C ref22_through.G
 refine (if_neg (show ¬decide ((1:Int)>2)=true by decide)).trans ?_
 refine (bind_eq (twos h (n:=1) (by decide))).trans ?_
 refine (if_neg (show ¬((1:Int)==2)=true by decide)).trans ?_
 refine (if_neg (show ¬((1:Int)==3)=true by decide)).trans ?_
 refine (if_neg (show ¬((9:Int)==10)=true by decide)).trans ?_
 exact bind_eq (fetcheds h (by omega) _)
theorem through9_2 {rd:List Int} (hd:∀ v∈rd,byte v) {x:Wh} {m:Nat} (h:wok m x) (hm:m≤90) {Y:Nat} (hY:Y<8) (u v w:Int):ref22_through.F (x.w rd,(9,((2:Nat):Int),(Y:Int),u,v,w),())=some ((wholeS rd x 9 2 Y).w rd,()):=by
 unfold ref22_through.F ref22_through.C ref22_through.G
 refine (if_neg (show ¬decide ((2:Int)>2)=true by decide)).trans ?_
 refine (bind_eq (twos h (n:=2) (by decide))).trans ?_
 refine (if_pos (show ((2:Int)==2)=true by decide)).trans ?_
 refine (bind_eq (more_spec (pairR_ok h.r 2) (n:=1) (by decide) (by decide))).trans ?_
 refine (bind_eq (setTwos x (n:=2) (by decide) (word_mod _))).trans ?_
 refine (if_neg (show ¬((2:Int)==3)=true by decide)).trans ?_
 refine (if_neg (show ¬((9:Int)==10)=true by decide)).trans ?_
 exact bind_eq (fetcheds (h.wr (putP_ok h.r 2 (word_mod _))) (by omega) _)
theorem through9_3 {rd:List Int} (hd:∀ v∈rd,byte v) {x:Wh} {m:Nat} (h:wok m x) (hm:m≤90) {Y:Nat} (hY:Y<8) (u v w:Int):ref22_through.F (x.w rd,(9,((3:Nat):Int),(Y:Int),u,v,w),())=some ((wholeS rd x 9 3 Y).w rd,()):=by
 unfold ref22_through.F ref22_through.C ref22_through.G
 refine (if_pos (show decide ((3:Int)>2)=true by decide)).trans ?_
 refine (bind_eq (twos h (n:=2) (by decide))).trans ?_
 refine (if_neg (show ¬((3:Int)==2)=true by decide)).trans ?_
 refine (if_pos (show ((3:Int)==3)=true by decide)).trans ?_
 refine (bind_eq (more_spec (pairR_ok h.r 2) (n := -1) (by decide) (by decide))).trans ?_
 refine (bind_eq (setTwos x (n:=2) (by decide) (word_mod _))).trans ?_
 refine (if_neg (show ¬((9:Int)==10)=true by decide)).trans ?_
 exact bind_eq (fetcheds (h.wr (putP_ok h.r 2 (word_mod _))) (by omega) _)
theorem through10_0 {rd:List Int} (hd:∀ v∈rd,byte v) {x:Wh} {m:Nat} (h:wok m x) (hm:m≤90) {Y:Nat} (hY:Y<8) (u v w:Int):ref22_through.F (x.w rd,(10,((0:Nat):Int),(Y:Int),u,v,w),())=some ((wholeS rd x 10 0 Y).w rd,()):=by
 unfold ref22_through.F ref22_through.C ref22_through.G
 refine (if_neg (show ¬decide ((0:Int)>2)=true by decide)).trans ?_
 refine (bind_eq (twos h (n:=0) (by decide))).trans ?_
 refine (if_neg (show ¬((0:Int)==2)=true by decide)).trans ?_
 refine (if_neg (show ¬((0:Int)==3)=true by decide)).trans ?_
 refine (if_pos (show ((10:Int)==10)=true by decide)).trans ?_
 exact bind_eq (sets h (by omega) _ _)
theorem through10_1 {rd:List Int} (hd:∀ v∈rd,byte v) {x:Wh} {m:Nat} (h:wok m x) (hm:m≤90) {Y:Nat} (hY:Y<8) (u v w:Int):ref22_through.F (x.w rd,(10,((1:Nat):Int),(Y:Int),u,v,w),())=some ((wholeS rd x 10 1 Y).w rd,()):=by
 unfold ref22_through.F ref22_through.C ref22_through.G
 refine (if_neg (show ¬decide ((1:Int)>2)=true by decide)).trans ?_
 refine (bind_eq (twos h (n:=1) (by decide))).trans ?_
 refine (if_neg (show ¬((1:Int)==2)=true by decide)).trans ?_
 refine (if_neg (show ¬((1:Int)==3)=true by decide)).trans ?_
 refine (if_pos (show ((10:Int)==10)=true by decide)).trans ?_
 exact bind_eq (sets h (by omega) _ _)
theorem through10_2 {rd:List Int} (hd:∀ v∈rd,byte v) {x:Wh} {m:Nat} (h:wok m x) (hm:m≤90) {Y:Nat} (hY:Y<8) (u v w:Int):ref22_through.F (x.w rd,(10,((2:Nat):Int),(Y:Int),u,v,w),())=some ((wholeS rd x 10 2 Y).w rd,()):=by
 unfold ref22_through.F ref22_through.C ref22_through.G
 refine (if_neg (show ¬decide ((2:Int)>2)=true by decide)).trans ?_
 refine (bind_eq (twos h (n:=2) (by decide))).trans ?_
 refine (if_pos (show ((2:Int)==2)=true by decide)).trans ?_
 refine (bind_eq (more_spec (pairR_ok h.r 2) (n:=1) (by decide) (by decide))).trans ?_
 refine (bind_eq (setTwos x (n:=2) (by decide) (word_mod _))).trans ?_
 refine (if_neg (show ¬((2:Int)==3)=true by decide)).trans ?_
 refine (if_pos (show ((10:Int)==10)=true by decide)).trans ?_
 exact bind_eq (sets (h.wr (putP_ok h.r 2 (word_mod _))) (by omega) _ _)
theorem through10_3 {rd:List Int} (hd:∀ v∈rd,byte v) {x:Wh} {m:Nat} (h:wok m x) (hm:m≤90) {Y:Nat} (hY:Y<8) (u v w:Int):ref22_through.F (x.w rd,(10,((3:Nat):Int),(Y:Int),u,v,w),())=some ((wholeS rd x 10 3 Y).w rd,()):=by
 unfold ref22_through.F ref22_through.C ref22_through.G
 refine (if_pos (show decide ((3:Int)>2)=true by decide)).trans ?_
 refine (bind_eq (twos h (n:=2) (by decide))).trans ?_
 refine (if_neg (show ¬((3:Int)==2)=true by decide)).trans ?_
 refine (if_pos (show ((3:Int)==3)=true by decide)).trans ?_
 refine (bind_eq (more_spec (pairR_ok h.r 2) (n := -1) (by decide) (by decide))).trans ?_
 refine (bind_eq (setTwos x (n:=2) (by decide) (word_mod _))).trans ?_
 refine (if_pos (show ((10:Int)==10)=true by decide)).trans ?_
 exact bind_eq (sets (h.wr (putP_ok h.r 2 (word_mod _))) (by omega) _ _)
theorem moves7 {rd:List Int} (hd:∀ v∈rd,byte v) {x:Wh} {m:Nat} (h:wok m x) (hm:m≤90) {X:Nat} {Y:Nat} (hX:X<8) (hY:Y<8) (u v w:Int):ref22_moves.F (x.w rd,(7,((X:Nat):Int),(Y:Int),u,v,w),())=some ((wholeS rd x 7 X Y).w rd,()):=by
 unfold ref22_moves.F ref22_moves.C ref22_moves.G
 refine (if_pos (show ((7:Int)==7)=true by decide)).trans ?_
 refine (bind_eq (loads h (by omega) hY)).trans ?_
 exact bind_eq (stores (h.load Y) (by omega) hX _)
theorem moves8 {rd:List Int} (hd:∀ v∈rd,byte v) {x:Wh} {m:Nat} (h:wok m x) (hm:m≤90) {X:Nat} {Y:Nat} (hX:X<8) (hY:Y<8) (u v w:Int):ref22_moves.F (x.w rd,(8,((X:Nat):Int),(Y:Int),u,v,w),())=some ((wholeS rd x 8 X Y).w rd,()):=by
 unfold ref22_moves.F ref22_moves.C ref22_moves.G
 refine (if_neg (show ¬((8:Int)==7)=true by decide)).trans ?_
 refine (if_pos (show ((8:Int)==8)=true by decide)).trans ?_
 refine (bind_eq (nexts h (by omega) 2)).trans ?_
 exact bind_eq (stores (h.next 2) (by omega) hX _)
theorem moves9 {rd:List Int} (hd:∀ v∈rd,byte v) {x:Wh} {m:Nat} (h:wok m x) (hm:m≤90) {X:Nat} {Y:Nat} (hX:X<8) (hY:Y<8) (h4:X<4) (u v w:Int):ref22_moves.F (x.w rd,(9,((X:Nat):Int),(Y:Int),u,v,w),())=some ((wholeS rd x 9 X Y).w rd,()):=by
 unfold ref22_moves.F ref22_moves.C ref22_moves.G
 refine (if_neg (show ¬((9:Int)==7)=true by decide)).trans ?_
 refine (if_neg (show ¬((9:Int)==8)=true by decide)).trans ?_
 refine (if_pos (show ((9:Int)==9)=true by decide)).trans ?_
 obtain rfl | rfl | rfl | rfl:X=0∨X=1∨X=2∨X=3:=by omega
 ·exact bind_eq (through9_0 hd h hm hY u v w)
 ·exact bind_eq (through9_1 hd h hm hY u v w)
 ·exact bind_eq (through9_2 hd h hm hY u v w)
 ·exact bind_eq (through9_3 hd h hm hY u v w)
theorem moves10 {rd:List Int} (hd:∀ v∈rd,byte v) {x:Wh} {m:Nat} (h:wok m x) (hm:m≤90) {X:Nat} {Y:Nat} (hX:X<8) (hY:Y<8) (h4:X<4) (u v w:Int):ref22_moves.F (x.w rd,(10,((X:Nat):Int),(Y:Int),u,v,w),())=some ((wholeS rd x 10 X Y).w rd,()):=by
 unfold ref22_moves.F ref22_moves.C ref22_moves.G
 refine (if_neg (show ¬((10:Int)==7)=true by decide)).trans ?_
 refine (if_neg (show ¬((10:Int)==8)=true by decide)).trans ?_
 refine (if_neg (show ¬((10:Int)==9)=true by decide)).trans ?_
 refine (if_pos (show ((10:Int)==10)=true by decide)).trans ?_
 obtain rfl | rfl | rfl | rfl:X=0∨X=1∨X=2∨X=3:=by omega
 ·exact bind_eq (through10_0 hd h hm hY u v w)
 ·exact bind_eq (through10_1 hd h hm hY u v w)
 ·exact bind_eq (through10_2 hd h hm hY u v w)
 ·exact bind_eq (through10_3 hd h hm hY u v w)
theorem moves11 {rd:List Int} (hd:∀ v∈rd,byte v) {x:Wh} {m:Nat} (h:wok m x) (hm:m≤90) {X:Nat} {Y:Nat} (hX:X<8) (hY:Y<8) (u v w:Int):ref22_moves.F (x.w rd,(11,((X:Nat):Int),(Y:Int),u,v,w),())=some ((wholeS rd x 11 X Y).w rd,()):=by
 unfold ref22_moves.F ref22_moves.C ref22_moves.G
 refine (if_neg (show ¬((11:Int)==7)=true by decide)).trans ?_
 refine (if_neg (show ¬((11:Int)==8)=true by decide)).trans ?_
 refine (if_neg (show ¬((11:Int)==9)=true by decide)).trans ?_
 refine (if_neg (show ¬((11:Int)==10)=true by decide)).trans ?_
 refine (if_pos (show ((11:Int)==11)=true by decide)).trans ?_
 refine (bind_eq (nexts h (by omega) 2)).trans ?_
 refine (bind_eq (highs (v_ok hd x))).trans ?_
 exact bind_eq (fetcheds (h.next 2) (by omega) _)
theorem moves12 {rd:List Int} (hd:∀ v∈rd,byte v) {x:Wh} {m:Nat} (h:wok m x) (hm:m≤90) {X:Nat} {Y:Nat} (hX:X<8) (hY:Y<8) (u v w:Int):ref22_moves.F (x.w rd,(12,((X:Nat):Int),(Y:Int),u,v,w),())=some ((wholeS rd x 12 X Y).w rd,()):=by
 unfold ref22_moves.F ref22_moves.C ref22_moves.G
 refine (if_neg (show ¬((12:Int)==7)=true by decide)).trans ?_
 refine (if_neg (show ¬((12:Int)==8)=true by decide)).trans ?_
 refine (if_neg (show ¬((12:Int)==9)=true by decide)).trans ?_
 refine (if_neg (show ¬((12:Int)==10)=true by decide)).trans ?_
 refine (if_neg (show ¬((12:Int)==11)=true by decide)).trans ?_
 refine (if_pos (show ((12:Int)==12)=true by decide)).trans ?_
 refine (bind_eq (nexts h (by omega) 2)).trans ?_
 refine (bind_eq (highs (v_ok hd x))).trans ?_
 exact bind_eq (sets (h.next 2) (by omega) _ _)
theorem moves13 {rd:List Int} (hd:∀ v∈rd,byte v) {x:Wh} {m:Nat} (h:wok m x) (hm:m≤90) {X:Nat} {Y:Nat} (hX:X<8) (hY:Y<8) (u v w:Int):ref22_moves.F (x.w rd,(13,((X:Nat):Int),(Y:Int),u,v,w),())=some ((wholeS rd x 13 X Y).w rd,()):=by
 unfold ref22_moves.F ref22_moves.C ref22_moves.G
 refine (if_neg (show ¬((13:Int)==7)=true by decide)).trans ?_
 refine (if_neg (show ¬((13:Int)==8)=true by decide)).trans ?_
 refine (if_neg (show ¬((13:Int)==9)=true by decide)).trans ?_
 refine (if_neg (show ¬((13:Int)==10)=true by decide)).trans ?_
 refine (if_neg (show ¬((13:Int)==11)=true by decide)).trans ?_
 refine (if_neg (show ¬((13:Int)==12)=true by decide)).trans ?_
 refine (if_pos (show ((13:Int)==13)=true by decide)).trans ?_
 refine (bind_eq (highs h.r.c)).trans ?_
 exact bind_eq (fetcheds h (by omega) _)
theorem moves14 {rd:List Int} (hd:∀ v∈rd,byte v) {x:Wh} {m:Nat} (h:wok m x) (hm:m≤90) {X:Nat} {Y:Nat} (hX:X<8) (hY:Y<8) (u v w:Int):ref22_moves.F (x.w rd,(14,((X:Nat):Int),(Y:Int),u,v,w),())=some ((wholeS rd x 14 X Y).w rd,()):=by
 unfold ref22_moves.F ref22_moves.C ref22_moves.G
 refine (if_neg (show ¬((14:Int)==7)=true by decide)).trans ?_
 refine (if_neg (show ¬((14:Int)==8)=true by decide)).trans ?_
 refine (if_neg (show ¬((14:Int)==9)=true by decide)).trans ?_
 refine (if_neg (show ¬((14:Int)==10)=true by decide)).trans ?_
 refine (if_neg (show ¬((14:Int)==11)=true by decide)).trans ?_
 refine (if_neg (show ¬((14:Int)==12)=true by decide)).trans ?_
 refine (if_neg (show ¬((14:Int)==13)=true by decide)).trans ?_
 refine (if_pos (show ((14:Int)==14)=true by decide)).trans ?_
 refine (bind_eq (highs h.r.c)).trans ?_
 exact bind_eq (sets h (by omega) _ _)
theorem moves15 {rd:List Int} (hd:∀ v∈rd,byte v) {x:Wh} {m:Nat} (h:wok m x) (hm:m≤90) {X:Nat} {Y:Nat} (hX:X<8) (hY:Y<8) (u v w:Int):ref22_moves.F (x.w rd,(15,((X:Nat):Int),(Y:Int),u,v,w),())=some ((wholeS rd x 15 X Y).w rd,()):=by
 unfold ref22_moves.F ref22_moves.C ref22_moves.G
 refine (if_neg (show ¬((15:Int)==7)=true by decide)).trans ?_
 refine (if_neg (show ¬((15:Int)==8)=true by decide)).trans ?_
 refine (if_neg (show ¬((15:Int)==9)=true by decide)).trans ?_
 refine (if_neg (show ¬((15:Int)==10)=true by decide)).trans ?_
 refine (if_neg (show ¬((15:Int)==11)=true by decide)).trans ?_
 refine (if_neg (show ¬((15:Int)==12)=true by decide)).trans ?_
 refine (if_neg (show ¬((15:Int)==13)=true by decide)).trans ?_
 refine (if_neg (show ¬((15:Int)==14)=true by decide)).trans ?_
 refine (if_pos (show ((15:Int)==15)=true by decide)).trans ?_
 refine (bind_eq (words hd h (by omega))).trans ?_
 exact bind_eq (fetcheds h.word (by omega) _)
theorem moves16 {rd:List Int} (hd:∀ v∈rd,byte v) {x:Wh} {m:Nat} (h:wok m x) (hm:m≤90) {X:Nat} {Y:Nat} (hX:X<8) (hY:Y<8) (u v w:Int):ref22_moves.F (x.w rd,(16,((X:Nat):Int),(Y:Int),u,v,w),())=some ((wholeS rd x 16 X Y).w rd,()):=by
 unfold ref22_moves.F ref22_moves.C ref22_moves.G
 refine (if_neg (show ¬((16:Int)==7)=true by decide)).trans ?_
 refine (if_neg (show ¬((16:Int)==8)=true by decide)).trans ?_
 refine (if_neg (show ¬((16:Int)==9)=true by decide)).trans ?_
 refine (if_neg (show ¬((16:Int)==10)=true by decide)).trans ?_
 refine (if_neg (show ¬((16:Int)==11)=true by decide)).trans ?_
 refine (if_neg (show ¬((16:Int)==12)=true by decide)).trans ?_
 refine (if_neg (show ¬((16:Int)==13)=true by decide)).trans ?_
 refine (if_neg (show ¬((16:Int)==14)=true by decide)).trans ?_
 refine (if_neg (show ¬((16:Int)==15)=true by decide)).trans ?_
 refine (if_pos (show ((16:Int)==16)=true by decide)).trans ?_
 refine (bind_eq (words hd h (by omega))).trans ?_
 exact bind_eq (sets h.word (by omega) _ _)
theorem moves17 {rd:List Int} (hd:∀ v∈rd,byte v) {x:Wh} {m:Nat} (h:wok m x) (hm:m≤90) {X:Nat} {Y:Nat} (hX:X<8) (hY:Y<8) (h5:X<5) (u v w:Int):ref22_moves.F (x.w rd,(17,((X:Nat):Int),(Y:Int),u,v,w),())=some ((wholeS rd x 17 X Y).w rd,()):=by
 unfold ref22_moves.F ref22_moves.C ref22_moves.G
 refine (if_neg (show ¬((17:Int)==7)=true by decide)).trans ?_
 refine (if_neg (show ¬((17:Int)==8)=true by decide)).trans ?_
 refine (if_neg (show ¬((17:Int)==9)=true by decide)).trans ?_
 refine (if_neg (show ¬((17:Int)==10)=true by decide)).trans ?_
 refine (if_neg (show ¬((17:Int)==11)=true by decide)).trans ?_
 refine (if_neg (show ¬((17:Int)==12)=true by decide)).trans ?_
 refine (if_neg (show ¬((17:Int)==13)=true by decide)).trans ?_
 refine (if_neg (show ¬((17:Int)==14)=true by decide)).trans ?_
 refine (if_neg (show ¬((17:Int)==15)=true by decide)).trans ?_
 refine (if_neg (show ¬((17:Int)==16)=true by decide)).trans ?_
 refine (if_pos (show ((17:Int)==17)=true by decide)).trans ?_
 refine (bind_eq (words hd h (by omega))).trans ?_
 exact bind_eq (setTwos (wordW rd x) h5 (wv_ok hd x))
theorem moves18 {rd:List Int} (hd:∀ v∈rd,byte v) {x:Wh} {m:Nat} (h:wok m x) (hm:m≤90) {X:Nat} {Y:Nat} (hX:X<8) (hY:Y<8) (u v w:Int):ref22_moves.F (x.w rd,(18,((X:Nat):Int),(Y:Int),u,v,w),())=some ((wholeS rd x 18 X Y).w rd,()):=by
 unfold ref22_moves.F ref22_moves.C ref22_moves.G
 refine (if_neg (show ¬((18:Int)==7)=true by decide)).trans ?_
 refine (if_neg (show ¬((18:Int)==8)=true by decide)).trans ?_
 refine (if_neg (show ¬((18:Int)==9)=true by decide)).trans ?_
 refine (if_neg (show ¬((18:Int)==10)=true by decide)).trans ?_
 refine (if_neg (show ¬((18:Int)==11)=true by decide)).trans ?_
 refine (if_neg (show ¬((18:Int)==12)=true by decide)).trans ?_
 refine (if_neg (show ¬((18:Int)==13)=true by decide)).trans ?_
 refine (if_neg (show ¬((18:Int)==14)=true by decide)).trans ?_
 refine (if_neg (show ¬((18:Int)==15)=true by decide)).trans ?_
 refine (if_neg (show ¬((18:Int)==16)=true by decide)).trans ?_
 refine (if_neg (show ¬((18:Int)==17)=true by decide)).trans ?_
 refine (if_pos (show ((18:Int)==18)=true by decide)).trans ?_
 refine (bind_eq (words hd h (by omega))).trans ?_
 refine (bind_eq (split_spec (w:=spR x.r) h.r.sp)).trans ?_
 refine (bind_eq (sets h.word (by omega) (wordV rd x) (spR x.r%256))).trans ?_
 refine (bind_eq (more_spec (wv_ok hd x) (by decide) (by decide))).trans ?_
 exact bind_eq (sets (h.word.set (wordV rd x) (spR x.r%256)) (by omega) _ _)
theorem moves19 {rd:List Int} (hd:∀ v∈rd,byte v) {x:Wh} {m:Nat} (h:wok m x) (hm:m≤90) {X:Nat} {Y:Nat} (hX:X<8) (hY:Y<8) (u v w:Int):ref22_moves.F (x.w rd,(19,((X:Nat):Int),(Y:Int),u,v,w),())=some ((wholeS rd x 19 X Y).w rd,()):=by
 unfold ref22_moves.F ref22_moves.C ref22_moves.G
 refine (if_neg (show ¬((19:Int)==7)=true by decide)).trans ?_
 refine (if_neg (show ¬((19:Int)==8)=true by decide)).trans ?_
 refine (if_neg (show ¬((19:Int)==9)=true by decide)).trans ?_
 refine (if_neg (show ¬((19:Int)==10)=true by decide)).trans ?_
 refine (if_neg (show ¬((19:Int)==11)=true by decide)).trans ?_
 refine (if_neg (show ¬((19:Int)==12)=true by decide)).trans ?_
 refine (if_neg (show ¬((19:Int)==13)=true by decide)).trans ?_
 refine (if_neg (show ¬((19:Int)==14)=true by decide)).trans ?_
 refine (if_neg (show ¬((19:Int)==15)=true by decide)).trans ?_
 refine (if_neg (show ¬((19:Int)==16)=true by decide)).trans ?_
 refine (if_neg (show ¬((19:Int)==17)=true by decide)).trans ?_
 refine (if_neg (show ¬((19:Int)==18)=true by decide)).trans ?_
 refine (if_pos (show ((19:Int)==19)=true by decide)).trans ?_
 exact bind_eq (twos h (n:=2) (by decide))
theorem moves20 {rd:List Int} (hd:∀ v∈rd,byte v) {x:Wh} {m:Nat} (h:wok m x) (hm:m≤90) {X:Nat} {Y:Nat} (hX:X<8) (hY:Y<8) (u v w:Int):ref22_moves.F (x.w rd,(20,((X:Nat):Int),(Y:Int),u,v,w),())=some ((wholeS rd x 20 X Y).w rd,()):=by
 unfold ref22_moves.F ref22_moves.C ref22_moves.G
 refine (if_neg (show ¬((20:Int)==7)=true by decide)).trans ?_
 refine (if_neg (show ¬((20:Int)==8)=true by decide)).trans ?_
 refine (if_neg (show ¬((20:Int)==9)=true by decide)).trans ?_
 refine (if_neg (show ¬((20:Int)==10)=true by decide)).trans ?_
 refine (if_neg (show ¬((20:Int)==11)=true by decide)).trans ?_
 refine (if_neg (show ¬((20:Int)==12)=true by decide)).trans ?_
 refine (if_neg (show ¬((20:Int)==13)=true by decide)).trans ?_
 refine (if_neg (show ¬((20:Int)==14)=true by decide)).trans ?_
 refine (if_neg (show ¬((20:Int)==15)=true by decide)).trans ?_
 refine (if_neg (show ¬((20:Int)==16)=true by decide)).trans ?_
 refine (if_neg (show ¬((20:Int)==17)=true by decide)).trans ?_
 refine (if_neg (show ¬((20:Int)==18)=true by decide)).trans ?_
 refine (if_neg (show ¬((20:Int)==19)=true by decide)).trans ?_
 refine (if_pos (show ((20:Int)==20)=true by decide)).trans ?_
 refine (bind_eq (nexts h (by omega) 2)).trans ?_
 refine (bind_eq (radde_spec (w:=spR x.r) h.r.sp (v_ok hd x))).trans ?_
 refine (bind_eq (setTwos (nextW rd x 2) (n:=2) (by decide) (word_mod _))).trans ?_
 exact bind_eq (flaggeds ((nextW rd x 2).wr (putP (nextW rd x 2).r 2 (addeS (spR x.r) (x.v rd)).1)) _)
theorem moves21 {rd:List Int} (hd:∀ v∈rd,byte v) {x:Wh} {m:Nat} (h:wok m x) (hm:m≤90) {X:Nat} {Y:Nat} (hX:X<8) (hY:Y<8) (h5:X<5) (u v w:Int):ref22_moves.F (x.w rd,(21,((X:Nat):Int),(Y:Int),u,v,w),())=some ((wholeS rd x 21 X Y).w rd,()):=by
 unfold ref22_moves.F ref22_moves.C ref22_moves.G
 refine (if_neg (show ¬((21:Int)==7)=true by decide)).trans ?_
 refine (if_neg (show ¬((21:Int)==8)=true by decide)).trans ?_
 refine (if_neg (show ¬((21:Int)==9)=true by decide)).trans ?_
 refine (if_neg (show ¬((21:Int)==10)=true by decide)).trans ?_
 refine (if_neg (show ¬((21:Int)==11)=true by decide)).trans ?_
 refine (if_neg (show ¬((21:Int)==12)=true by decide)).trans ?_
 refine (if_neg (show ¬((21:Int)==13)=true by decide)).trans ?_
 refine (if_neg (show ¬((21:Int)==14)=true by decide)).trans ?_
 refine (if_neg (show ¬((21:Int)==15)=true by decide)).trans ?_
 refine (if_neg (show ¬((21:Int)==16)=true by decide)).trans ?_
 refine (if_neg (show ¬((21:Int)==17)=true by decide)).trans ?_
 refine (if_neg (show ¬((21:Int)==18)=true by decide)).trans ?_
 refine (if_neg (show ¬((21:Int)==19)=true by decide)).trans ?_
 refine (if_neg (show ¬((21:Int)==20)=true by decide)).trans ?_
 refine (if_pos (show ((21:Int)==21)=true by decide)).trans ?_
 refine (bind_eq (twos h h5)).trans ?_
 exact bind_eq (pushs h (by omega) (pairR_ok h.r X))
theorem moves22 {rd:List Int} (hd:∀ v∈rd,byte v) {x:Wh} {m:Nat} (h:wok m x) (hm:m≤90) {X:Nat} {Y:Nat} (hX:X<8) (hY:Y<8) (h5:X<5) (u v w:Int):ref22_moves.F (x.w rd,(22,((X:Nat):Int),(Y:Int),u,v,w),())=some ((wholeS rd x 22 X Y).w rd,()):=by
 unfold ref22_moves.F ref22_moves.C ref22_moves.G
 refine (if_neg (show ¬((22:Int)==7)=true by decide)).trans ?_
 refine (if_neg (show ¬((22:Int)==8)=true by decide)).trans ?_
 refine (if_neg (show ¬((22:Int)==9)=true by decide)).trans ?_
 refine (if_neg (show ¬((22:Int)==10)=true by decide)).trans ?_
 refine (if_neg (show ¬((22:Int)==11)=true by decide)).trans ?_
 refine (if_neg (show ¬((22:Int)==12)=true by decide)).trans ?_
 refine (if_neg (show ¬((22:Int)==13)=true by decide)).trans ?_
 refine (if_neg (show ¬((22:Int)==14)=true by decide)).trans ?_
 refine (if_neg (show ¬((22:Int)==15)=true by decide)).trans ?_
 refine (if_neg (show ¬((22:Int)==16)=true by decide)).trans ?_
 refine (if_neg (show ¬((22:Int)==17)=true by decide)).trans ?_
 refine (if_neg (show ¬((22:Int)==18)=true by decide)).trans ?_
 refine (if_neg (show ¬((22:Int)==19)=true by decide)).trans ?_
 refine (if_neg (show ¬((22:Int)==20)=true by decide)).trans ?_
 refine (if_neg (show ¬((22:Int)==21)=true by decide)).trans ?_
 refine (if_pos (show ((22:Int)==22)=true by decide)).trans ?_
 refine (bind_eq (pops hd h (by omega))).trans ?_
 exact bind_eq (setTwos (popW rd x) h5 (pv_ok hd x))
theorem means23 {rd:List Int} (hd:∀ v∈rd,byte v) {x:Wh} {m:Nat} (h:wok m x) (hm:m≤90) {X:Nat} {Y:Nat} (hX:X<8) (hY:Y<8) (u v w:Int):ref22_means.F (x.w rd,(23,((X:Nat):Int),(Y:Int),u,v,w),())=some ((wholeS rd x 23 X Y).w rd,()):=by
 unfold ref22_means.F ref22_means.C ref22_means.G
 refine (bind_eq (rflags_spec (r:=x.r) h.r)).trans ?_
 refine (if_pos (show ((23:Int)==23)=true by decide)).trans ?_
 refine (bind_eq (loads h (by omega) hY)).trans ?_
 refine (bind_eq (rdo_spec hX (h.load Y).r.a (loadV_ok hd h Y) (ofS x.r.2.1))).trans ?_
 exact bind_eq (flaggeds ((loadW rd x Y).wr (setA (loadW rd x Y).r (doS X (loadW rd x Y).r.1 (loadV rd x Y) (ofS x.r.2.1)).1)) _)
theorem means24 {rd:List Int} (hd:∀ v∈rd,byte v) {x:Wh} {m:Nat} (h:wok m x) (hm:m≤90) {X:Nat} {Y:Nat} (hX:X<8) (hY:Y<8) (u v w:Int):ref22_means.F (x.w rd,(24,((X:Nat):Int),(Y:Int),u,v,w),())=some ((wholeS rd x 24 X Y).w rd,()):=by
 unfold ref22_means.F ref22_means.C ref22_means.G
 refine (bind_eq (rflags_spec (r:=x.r) h.r)).trans ?_
 refine (if_neg (show ¬((24:Int)==23)=true by decide)).trans ?_
 refine (if_pos (show ((24:Int)==24)=true by decide)).trans ?_
 refine (bind_eq (nexts h (by omega) 2)).trans ?_
 refine (bind_eq (rdo_spec hX h.r.a (v_ok hd x) (ofS x.r.2.1))).trans ?_
 exact bind_eq (flaggeds ((nextW rd x 2).wr (setA (nextW rd x 2).r (doS X x.r.1 (x.v rd) (ofS x.r.2.1)).1)) _)
theorem means25 {rd:List Int} (hd:∀ v∈rd,byte v) {x:Wh} {m:Nat} (h:wok m x) (hm:m≤90) {X:Nat} {Y:Nat} (hX:X<8) (hY:Y<8) (u v w:Int):ref22_means.F (x.w rd,(25,((X:Nat):Int),(Y:Int),u,v,w),())=some ((wholeS rd x 25 X Y).w rd,()):=by
 unfold ref22_means.F ref22_means.C ref22_means.G
 refine (bind_eq (rflags_spec (r:=x.r) h.r)).trans ?_
 refine (if_neg (show ¬((25:Int)==23)=true by decide)).trans ?_
 refine (if_neg (show ¬((25:Int)==24)=true by decide)).trans ?_
 refine (if_pos (show ((25:Int)==25)=true by decide)).trans ?_
 refine (bind_eq (loads h (by omega) hX)).trans ?_
 refine (bind_eq (rinc_spec (loadV_ok hd h X) (ofS x.r.2.1))).trans ?_
 refine (bind_eq (stores (h.load X) (by omega) hX _)).trans ?_
 exact bind_eq (flaggeds (storeW (loadW rd x X) X _) _)
theorem means26 {rd:List Int} (hd:∀ v∈rd,byte v) {x:Wh} {m:Nat} (h:wok m x) (hm:m≤90) {X:Nat} {Y:Nat} (hX:X<8) (hY:Y<8) (u v w:Int):ref22_means.F (x.w rd,(26,((X:Nat):Int),(Y:Int),u,v,w),())=some ((wholeS rd x 26 X Y).w rd,()):=by
 unfold ref22_means.F ref22_means.C ref22_means.G
 refine (bind_eq (rflags_spec (r:=x.r) h.r)).trans ?_
 refine (if_neg (show ¬((26:Int)==23)=true by decide)).trans ?_
 refine (if_neg (show ¬((26:Int)==24)=true by decide)).trans ?_
 refine (if_neg (show ¬((26:Int)==25)=true by decide)).trans ?_
 refine (if_pos (show ((26:Int)==26)=true by decide)).trans ?_
 refine (bind_eq (loads h (by omega) hX)).trans ?_
 refine (bind_eq (rdec_spec (loadV_ok hd h X) (ofS x.r.2.1))).trans ?_
 refine (bind_eq (stores (h.load X) (by omega) hX _)).trans ?_
 exact bind_eq (flaggeds (storeW (loadW rd x X) X _) _)
theorem means27 {rd:List Int} (hd:∀ v∈rd,byte v) {x:Wh} {m:Nat} (h:wok m x) (hm:m≤90) {X:Nat} {Y:Nat} (hX:X<8) (hY:Y<8) (h5:X<5) (u v w:Int):ref22_means.F (x.w rd,(27,((X:Nat):Int),(Y:Int),u,v,w),())=some ((wholeS rd x 27 X Y).w rd,()):=by
 unfold ref22_means.F ref22_means.C ref22_means.G
 refine (bind_eq (rflags_spec (r:=x.r) h.r)).trans ?_
 refine (if_neg (show ¬((27:Int)==23)=true by decide)).trans ?_
 refine (if_neg (show ¬((27:Int)==24)=true by decide)).trans ?_
 refine (if_neg (show ¬((27:Int)==25)=true by decide)).trans ?_
 refine (if_neg (show ¬((27:Int)==26)=true by decide)).trans ?_
 refine (if_pos (show ((27:Int)==27)=true by decide)).trans ?_
 refine (bind_eq (twos h h5)).trans ?_
 refine (bind_eq (more_spec (pairR_ok h.r X) (by decide) (by decide))).trans ?_
 exact bind_eq (setTwos x h5 (word_mod _))
theorem means28 {rd:List Int} (hd:∀ v∈rd,byte v) {x:Wh} {m:Nat} (h:wok m x) (hm:m≤90) {X:Nat} {Y:Nat} (hX:X<8) (hY:Y<8) (h5:X<5) (u v w:Int):ref22_means.F (x.w rd,(28,((X:Nat):Int),(Y:Int),u,v,w),())=some ((wholeS rd x 28 X Y).w rd,()):=by
 unfold ref22_means.F ref22_means.C ref22_means.G
 refine (bind_eq (rflags_spec (r:=x.r) h.r)).trans ?_
 refine (if_neg (show ¬((28:Int)==23)=true by decide)).trans ?_
 refine (if_neg (show ¬((28:Int)==24)=true by decide)).trans ?_
 refine (if_neg (show ¬((28:Int)==25)=true by decide)).trans ?_
 refine (if_neg (show ¬((28:Int)==26)=true by decide)).trans ?_
 refine (if_neg (show ¬((28:Int)==27)=true by decide)).trans ?_
 refine (if_pos (show ((28:Int)==28)=true by decide)).trans ?_
 refine (bind_eq (twos h h5)).trans ?_
 refine (bind_eq (more_spec (pairR_ok h.r X) (by decide) (by decide))).trans ?_
 exact bind_eq (setTwos x h5 (word_mod _))
theorem means29 {rd:List Int} (hd:∀ v∈rd,byte v) {x:Wh} {m:Nat} (h:wok m x) (hm:m≤90) {X:Nat} {Y:Nat} (hX:X<8) (hY:Y<8) (h5:X<5) (u v w:Int):ref22_means.F (x.w rd,(29,((X:Nat):Int),(Y:Int),u,v,w),())=some ((wholeS rd x 29 X Y).w rd,()):=by
 unfold ref22_means.F ref22_means.C ref22_means.G
 refine (bind_eq (rflags_spec (r:=x.r) h.r)).trans ?_
 refine (if_neg (show ¬((29:Int)==23)=true by decide)).trans ?_
 refine (if_neg (show ¬((29:Int)==24)=true by decide)).trans ?_
 refine (if_neg (show ¬((29:Int)==25)=true by decide)).trans ?_
 refine (if_neg (show ¬((29:Int)==26)=true by decide)).trans ?_
 refine (if_neg (show ¬((29:Int)==27)=true by decide)).trans ?_
 refine (if_neg (show ¬((29:Int)==28)=true by decide)).trans ?_
 refine (if_pos (show ((29:Int)==29)=true by decide)).trans ?_
 refine (bind_eq (twos h (n:=2) (by decide))).trans ?_
 refine (bind_eq (twos h h5)).trans ?_
 refine (bind_eq (raddw_spec (pairR_ok h.r 2) (pairR_ok h.r X) (ofS x.r.2.1))).trans ?_
 refine (bind_eq (setTwos x (n:=2) (by decide) (word_mod _))).trans ?_
 exact bind_eq (flaggeds (x.wr (putP x.r 2 _)) _)
theorem means30 {rd:List Int} (hd:∀ v∈rd,byte v) {x:Wh} {m:Nat} (h:wok m x) (hm:m≤90) {X:Nat} {Y:Nat} (hX:X<8) (hY:Y<8) (u v w:Int):ref22_means.F (x.w rd,(30,((X:Nat):Int),(Y:Int),u,v,w),())=some ((wholeS rd x 30 X Y).w rd,()):=by
 unfold ref22_means.F ref22_means.C ref22_means.G
 refine (bind_eq (rflags_spec (r:=x.r) h.r)).trans ?_
 refine (if_neg (show ¬((30:Int)==23)=true by decide)).trans ?_
 refine (if_neg (show ¬((30:Int)==24)=true by decide)).trans ?_
 refine (if_neg (show ¬((30:Int)==25)=true by decide)).trans ?_
 refine (if_neg (show ¬((30:Int)==26)=true by decide)).trans ?_
 refine (if_neg (show ¬((30:Int)==27)=true by decide)).trans ?_
 refine (if_neg (show ¬((30:Int)==28)=true by decide)).trans ?_
 refine (if_neg (show ¬((30:Int)==29)=true by decide)).trans ?_
 refine (if_pos (show ((30:Int)==30)=true by decide)).trans ?_
 refine (bind_eq (nexts h (by omega) 2)).trans ?_
 refine (bind_eq (radde_spec (w:=spR x.r) h.r.sp (v_ok hd x))).trans ?_
 exact bind_eq (flaggeds ((nextW rd x 2).wr (setSP (nextW rd x 2).r (addeS (spR x.r) (x.v rd)).1)) _)
theorem means31 {rd:List Int} (hd:∀ v∈rd,byte v) {x:Wh} {m:Nat} (h:wok m x) (hm:m≤90) {X:Nat} {Y:Nat} (hX:X<8) (hY:Y<8) (h4:X<4) (u v w:Int):ref22_means.F (x.w rd,(31,((X:Nat):Int),(Y:Int),u,v,w),())=some ((wholeS rd x 31 X Y).w rd,()):=by
 unfold ref22_means.F ref22_means.C ref22_means.G
 refine (bind_eq (rflags_spec (r:=x.r) h.r)).trans ?_
 refine (if_neg (show ¬((31:Int)==23)=true by decide)).trans ?_
 refine (if_neg (show ¬((31:Int)==24)=true by decide)).trans ?_
 refine (if_neg (show ¬((31:Int)==25)=true by decide)).trans ?_
 refine (if_neg (show ¬((31:Int)==26)=true by decide)).trans ?_
 refine (if_neg (show ¬((31:Int)==27)=true by decide)).trans ?_
 refine (if_neg (show ¬((31:Int)==28)=true by decide)).trans ?_
 refine (if_neg (show ¬((31:Int)==29)=true by decide)).trans ?_
 refine (if_neg (show ¬((31:Int)==30)=true by decide)).trans ?_
 refine (if_pos (show ((31:Int)==31)=true by decide)).trans ?_
 refine (bind_eq (rfast_spec h4 h.r.a (ofS x.r.2.1))).trans ?_
 exact bind_eq (flaggeds (x.wr (setA x.r _)) _)
theorem means32 {rd:List Int} (hd:∀ v∈rd,byte v) {x:Wh} {m:Nat} (h:wok m x) (hm:m≤90) {X:Nat} {Y:Nat} (hX:X<8) (hY:Y<8) (u v w:Int):ref22_means.F (x.w rd,(32,((X:Nat):Int),(Y:Int),u,v,w),())=some ((wholeS rd x 32 X Y).w rd,()):=by
 unfold ref22_means.F ref22_means.C ref22_means.G
 refine (bind_eq (rflags_spec (r:=x.r) h.r)).trans ?_
 refine (if_neg (show ¬((32:Int)==23)=true by decide)).trans ?_
 refine (if_neg (show ¬((32:Int)==24)=true by decide)).trans ?_
 refine (if_neg (show ¬((32:Int)==25)=true by decide)).trans ?_
 refine (if_neg (show ¬((32:Int)==26)=true by decide)).trans ?_
 refine (if_neg (show ¬((32:Int)==27)=true by decide)).trans ?_
 refine (if_neg (show ¬((32:Int)==28)=true by decide)).trans ?_
 refine (if_neg (show ¬((32:Int)==29)=true by decide)).trans ?_
 refine (if_neg (show ¬((32:Int)==30)=true by decide)).trans ?_
 refine (if_neg (show ¬((32:Int)==31)=true by decide)).trans ?_
 refine (if_pos (show ((32:Int)==32)=true by decide)).trans ?_
 refine (bind_eq (rdaa_spec h.r.a (ofS x.r.2.1))).trans ?_
 exact bind_eq (flaggeds (x.wr (setA x.r _)) _)
theorem means33 {rd:List Int} (hd:∀ v∈rd,byte v) {x:Wh} {m:Nat} (h:wok m x) (hm:m≤90) {X:Nat} {Y:Nat} (hX:X<8) (hY:Y<8) (u v w:Int):ref22_means.F (x.w rd,(33,((X:Nat):Int),(Y:Int),u,v,w),())=some ((wholeS rd x 33 X Y).w rd,()):=by
 unfold ref22_means.F ref22_means.C ref22_means.G
 refine (bind_eq (rflags_spec (r:=x.r) h.r)).trans ?_
 refine (if_neg (show ¬((33:Int)==23)=true by decide)).trans ?_
 refine (if_neg (show ¬((33:Int)==24)=true by decide)).trans ?_
 refine (if_neg (show ¬((33:Int)==25)=true by decide)).trans ?_
 refine (if_neg (show ¬((33:Int)==26)=true by decide)).trans ?_
 refine (if_neg (show ¬((33:Int)==27)=true by decide)).trans ?_
 refine (if_neg (show ¬((33:Int)==28)=true by decide)).trans ?_
 refine (if_neg (show ¬((33:Int)==29)=true by decide)).trans ?_
 refine (if_neg (show ¬((33:Int)==30)=true by decide)).trans ?_
 refine (if_neg (show ¬((33:Int)==31)=true by decide)).trans ?_
 refine (if_neg (show ¬((33:Int)==32)=true by decide)).trans ?_
 refine (if_pos (show ((33:Int)==33)=true by decide)).trans ?_
 refine (bind_eq (rcpl_spec h.r.a (ofS x.r.2.1))).trans ?_
 exact bind_eq (flaggeds (x.wr (setA x.r _)) _)
theorem means34 {rd:List Int} (hd:∀ v∈rd,byte v) {x:Wh} {m:Nat} (h:wok m x) (hm:m≤90) {X:Nat} {Y:Nat} (hX:X<8) (hY:Y<8) (u v w:Int):ref22_means.F (x.w rd,(34,((X:Nat):Int),(Y:Int),u,v,w),())=some ((wholeS rd x 34 X Y).w rd,()):=by
 unfold ref22_means.F ref22_means.C ref22_means.G
 refine (bind_eq (rflags_spec (r:=x.r) h.r)).trans ?_
 refine (if_neg (show ¬((34:Int)==23)=true by decide)).trans ?_
 refine (if_neg (show ¬((34:Int)==24)=true by decide)).trans ?_
 refine (if_neg (show ¬((34:Int)==25)=true by decide)).trans ?_
 refine (if_neg (show ¬((34:Int)==26)=true by decide)).trans ?_
 refine (if_neg (show ¬((34:Int)==27)=true by decide)).trans ?_
 refine (if_neg (show ¬((34:Int)==28)=true by decide)).trans ?_
 refine (if_neg (show ¬((34:Int)==29)=true by decide)).trans ?_
 refine (if_neg (show ¬((34:Int)==30)=true by decide)).trans ?_
 refine (if_neg (show ¬((34:Int)==31)=true by decide)).trans ?_
 refine (if_neg (show ¬((34:Int)==32)=true by decide)).trans ?_
 refine (if_neg (show ¬((34:Int)==33)=true by decide)).trans ?_
 refine (if_pos (show ((34:Int)==34)=true by decide)).trans ?_
 refine (bind_eq (rscf_spec (ofS x.r.2.1))).trans ?_
 exact bind_eq (flaggeds x _)
theorem means35 {rd:List Int} (hd:∀ v∈rd,byte v) {x:Wh} {m:Nat} (h:wok m x) (hm:m≤90) {X:Nat} {Y:Nat} (hX:X<8) (hY:Y<8) (u v w:Int):ref22_means.F (x.w rd,(35,((X:Nat):Int),(Y:Int),u,v,w),())=some ((wholeS rd x 35 X Y).w rd,()):=by
 unfold ref22_means.F ref22_means.C ref22_means.G
 refine (bind_eq (rflags_spec (r:=x.r) h.r)).trans ?_
 refine (if_neg (show ¬((35:Int)==23)=true by decide)).trans ?_
 refine (if_neg (show ¬((35:Int)==24)=true by decide)).trans ?_
 refine (if_neg (show ¬((35:Int)==25)=true by decide)).trans ?_
 refine (if_neg (show ¬((35:Int)==26)=true by decide)).trans ?_
 refine (if_neg (show ¬((35:Int)==27)=true by decide)).trans ?_
 refine (if_neg (show ¬((35:Int)==28)=true by decide)).trans ?_
 refine (if_neg (show ¬((35:Int)==29)=true by decide)).trans ?_
 refine (if_neg (show ¬((35:Int)==30)=true by decide)).trans ?_
 refine (if_neg (show ¬((35:Int)==31)=true by decide)).trans ?_
 refine (if_neg (show ¬((35:Int)==32)=true by decide)).trans ?_
 refine (if_neg (show ¬((35:Int)==33)=true by decide)).trans ?_
 refine (if_neg (show ¬((35:Int)==34)=true by decide)).trans ?_
 refine (if_pos (show ((35:Int)==35)=true by decide)).trans ?_
 refine (bind_eq (rccf_spec (ofS x.r.2.1))).trans ?_
 exact bind_eq (flaggeds x _)
theorem means43 {rd:List Int} (hd:∀ v∈rd,byte v) {x:Wh} {m:Nat} (h:wok m x) (hm:m≤90) {X:Nat} {Y:Nat} (hX:X<8) (hY:Y<8) (u v w:Int):ref22_means.F (x.w rd,(43,((X:Nat):Int),(Y:Int),u,v,w),())=some ((wholeS rd x 43 X Y).w rd,()):=by
 unfold ref22_means.F ref22_means.C ref22_means.G
 refine (bind_eq (rflags_spec (r:=x.r) h.r)).trans ?_
 refine (if_neg (show ¬((43:Int)==23)=true by decide)).trans ?_
 refine (if_neg (show ¬((43:Int)==24)=true by decide)).trans ?_
 refine (if_neg (show ¬((43:Int)==25)=true by decide)).trans ?_
 refine (if_neg (show ¬((43:Int)==26)=true by decide)).trans ?_
 refine (if_neg (show ¬((43:Int)==27)=true by decide)).trans ?_
 refine (if_neg (show ¬((43:Int)==28)=true by decide)).trans ?_
 refine (if_neg (show ¬((43:Int)==29)=true by decide)).trans ?_
 refine (if_neg (show ¬((43:Int)==30)=true by decide)).trans ?_
 refine (if_neg (show ¬((43:Int)==31)=true by decide)).trans ?_
 refine (if_neg (show ¬((43:Int)==32)=true by decide)).trans ?_
 refine (if_neg (show ¬((43:Int)==33)=true by decide)).trans ?_
 refine (if_neg (show ¬((43:Int)==34)=true by decide)).trans ?_
 refine (if_neg (show ¬((43:Int)==35)=true by decide)).trans ?_
 refine (if_pos (show ((43:Int)==43)=true by decide)).trans ?_
 refine (bind_eq (loads h (by omega) hY)).trans ?_
 refine (bind_eq (rsh_spec hX (loadV_ok hd h Y) (ofS x.r.2.1))).trans ?_
 refine (bind_eq (stores (h.load Y) (by omega) hY _)).trans ?_
 exact bind_eq (flaggeds (storeW (loadW rd x Y) Y _) _)
theorem means44 {rd:List Int} (hd:∀ v∈rd,byte v) {x:Wh} {m:Nat} (h:wok m x) (hm:m≤90) {X:Nat} {Y:Nat} (hX:X<8) (hY:Y<8) (u v w:Int):ref22_means.F (x.w rd,(44,((X:Nat):Int),(Y:Int),u,v,w),())=some ((wholeS rd x 44 X Y).w rd,()):=by
 unfold ref22_means.F ref22_means.C ref22_means.G
 refine (bind_eq (rflags_spec (r:=x.r) h.r)).trans ?_
 refine (if_neg (show ¬((44:Int)==23)=true by decide)).trans ?_
 refine (if_neg (show ¬((44:Int)==24)=true by decide)).trans ?_
 refine (if_neg (show ¬((44:Int)==25)=true by decide)).trans ?_
 refine (if_neg (show ¬((44:Int)==26)=true by decide)).trans ?_
 refine (if_neg (show ¬((44:Int)==27)=true by decide)).trans ?_
 refine (if_neg (show ¬((44:Int)==28)=true by decide)).trans ?_
 refine (if_neg (show ¬((44:Int)==29)=true by decide)).trans ?_
 refine (if_neg (show ¬((44:Int)==30)=true by decide)).trans ?_
 refine (if_neg (show ¬((44:Int)==31)=true by decide)).trans ?_
 refine (if_neg (show ¬((44:Int)==32)=true by decide)).trans ?_
 refine (if_neg (show ¬((44:Int)==33)=true by decide)).trans ?_
 refine (if_neg (show ¬((44:Int)==34)=true by decide)).trans ?_
 refine (if_neg (show ¬((44:Int)==35)=true by decide)).trans ?_
 refine (if_neg (show ¬((44:Int)==43)=true by decide)).trans ?_
 refine (if_pos (show ((44:Int)==44)=true by decide)).trans ?_
 refine (bind_eq (loads h (by omega) hY)).trans ?_
 refine (bind_eq (rtest_spec hX (loadV_ok hd h Y) (ofS x.r.2.1))).trans ?_
 exact bind_eq (flaggeds (loadW rd x Y) _)
theorem means45 {rd:List Int} (hd:∀ v∈rd,byte v) {x:Wh} {m:Nat} (h:wok m x) (hm:m≤90) {X:Nat} {Y:Nat} (hX:X<8) (hY:Y<8) (u v w:Int):ref22_means.F (x.w rd,(45,((X:Nat):Int),(Y:Int),u,v,w),())=some ((wholeS rd x 45 X Y).w rd,()):=by
 unfold ref22_means.F ref22_means.C ref22_means.G
 refine (bind_eq (rflags_spec (r:=x.r) h.r)).trans ?_
 refine (if_neg (show ¬((45:Int)==23)=true by decide)).trans ?_
 refine (if_neg (show ¬((45:Int)==24)=true by decide)).trans ?_
 refine (if_neg (show ¬((45:Int)==25)=true by decide)).trans ?_
 refine (if_neg (show ¬((45:Int)==26)=true by decide)).trans ?_
 refine (if_neg (show ¬((45:Int)==27)=true by decide)).trans ?_
 refine (if_neg (show ¬((45:Int)==28)=true by decide)).trans ?_
 refine (if_neg (show ¬((45:Int)==29)=true by decide)).trans ?_
 refine (if_neg (show ¬((45:Int)==30)=true by decide)).trans ?_
 refine (if_neg (show ¬((45:Int)==31)=true by decide)).trans ?_
 refine (if_neg (show ¬((45:Int)==32)=true by decide)).trans ?_
 refine (if_neg (show ¬((45:Int)==33)=true by decide)).trans ?_
 refine (if_neg (show ¬((45:Int)==34)=true by decide)).trans ?_
 refine (if_neg (show ¬((45:Int)==35)=true by decide)).trans ?_
 refine (if_neg (show ¬((45:Int)==43)=true by decide)).trans ?_
 refine (if_neg (show ¬((45:Int)==44)=true by decide)).trans ?_
 refine (if_pos (show ((45:Int)==45)=true by decide)).trans ?_
 refine (bind_eq (loads h (by omega) hY)).trans ?_
 refine (bind_eq (rres_spec hX (loadV_ok hd h Y))).trans ?_
 exact bind_eq (stores (h.load Y) (by omega) hY _)
theorem means46 {rd:List Int} (hd:∀ v∈rd,byte v) {x:Wh} {m:Nat} (h:wok m x) (hm:m≤90) {X:Nat} {Y:Nat} (hX:X<8) (hY:Y<8) (u v w:Int):ref22_means.F (x.w rd,(46,((X:Nat):Int),(Y:Int),u,v,w),())=some ((wholeS rd x 46 X Y).w rd,()):=by
 unfold ref22_means.F ref22_means.C ref22_means.G
 refine (bind_eq (rflags_spec (r:=x.r) h.r)).trans ?_
 refine (if_neg (show ¬((46:Int)==23)=true by decide)).trans ?_
 refine (if_neg (show ¬((46:Int)==24)=true by decide)).trans ?_
 refine (if_neg (show ¬((46:Int)==25)=true by decide)).trans ?_
 refine (if_neg (show ¬((46:Int)==26)=true by decide)).trans ?_
 refine (if_neg (show ¬((46:Int)==27)=true by decide)).trans ?_
 refine (if_neg (show ¬((46:Int)==28)=true by decide)).trans ?_
 refine (if_neg (show ¬((46:Int)==29)=true by decide)).trans ?_
 refine (if_neg (show ¬((46:Int)==30)=true by decide)).trans ?_
 refine (if_neg (show ¬((46:Int)==31)=true by decide)).trans ?_
 refine (if_neg (show ¬((46:Int)==32)=true by decide)).trans ?_
 refine (if_neg (show ¬((46:Int)==33)=true by decide)).trans ?_
 refine (if_neg (show ¬((46:Int)==34)=true by decide)).trans ?_
 refine (if_neg (show ¬((46:Int)==35)=true by decide)).trans ?_
 refine (if_neg (show ¬((46:Int)==43)=true by decide)).trans ?_
 refine (if_neg (show ¬((46:Int)==44)=true by decide)).trans ?_
 refine (if_neg (show ¬((46:Int)==45)=true by decide)).trans ?_
 refine (if_pos (show ((46:Int)==46)=true by decide)).trans ?_
 refine (bind_eq (loads h (by omega) hY)).trans ?_
 refine (bind_eq (rset_spec hX (loadV_ok hd h Y))).trans ?_
 exact bind_eq (stores (h.load Y) (by omega) hY _)
theorem means_none {rd:List Int} {x:Wh} {m:Nat} (h:wok m x) (k X Y u v w:Int) (hk:k≠23∧k≠24∧k≠25∧k≠26∧k≠27∧k≠28∧k≠29∧k≠30∧k≠31∧k≠32∧k≠33∧k≠34∧k≠35∧k≠43∧k≠44∧k≠45∧k≠46):ref22_means.F (x.w rd,(k,X,Y,u,v,w),())=some (x.w rd,()):=by
 unfold ref22_means.F ref22_means.C ref22_means.G
 refine (bind_eq (rflags_spec (r:=x.r) h.r)).trans ?_
 obtain ⟨n23,n24,n25,n26,n27,n28,n29,n30,n31,n32,n33,n34,n35,n43,n44,n45,n46⟩:=hk
 refine (if_neg (show ¬(k==23)=true by rw [beq_iff_eq];exact n23)).trans ?_
 refine (if_neg (show ¬(k==24)=true by rw [beq_iff_eq];exact n24)).trans ?_
 refine (if_neg (show ¬(k==25)=true by rw [beq_iff_eq];exact n25)).trans ?_
 refine (if_neg (show ¬(k==26)=true by rw [beq_iff_eq];exact n26)).trans ?_
 refine (if_neg (show ¬(k==27)=true by rw [beq_iff_eq];exact n27)).trans ?_
 refine (if_neg (show ¬(k==28)=true by rw [beq_iff_eq];exact n28)).trans ?_
 refine (if_neg (show ¬(k==29)=true by rw [beq_iff_eq];exact n29)).trans ?_
 refine (if_neg (show ¬(k==30)=true by rw [beq_iff_eq];exact n30)).trans ?_
 refine (if_neg (show ¬(k==31)=true by rw [beq_iff_eq];exact n31)).trans ?_
 refine (if_neg (show ¬(k==32)=true by rw [beq_iff_eq];exact n32)).trans ?_
 refine (if_neg (show ¬(k==33)=true by rw [beq_iff_eq];exact n33)).trans ?_
 refine (if_neg (show ¬(k==34)=true by rw [beq_iff_eq];exact n34)).trans ?_
 refine (if_neg (show ¬(k==35)=true by rw [beq_iff_eq];exact n35)).trans ?_
 refine (if_neg (show ¬(k==43)=true by rw [beq_iff_eq];exact n43)).trans ?_
 refine (if_neg (show ¬(k==44)=true by rw [beq_iff_eq];exact n44)).trans ?_
 refine (if_neg (show ¬(k==45)=true by rw [beq_iff_eq];exact n45)).trans ?_
 refine (if_neg (show ¬(k==46)=true by rw [beq_iff_eq];exact n46)).trans ?_
 rfl
theorem sgn_lo {v:Int} (h:byte v) : -65536≤sgn v:=by
 have:=h.1
 unfold sgn
 split<;>omega
theorem sgn_hi {v:Int} (h:byte v):sgn v≤65536:=by
 have:=h.2
 unfold sgn
 split<;>omega
theorem leaps36 {rd:List Int} (hd:∀ v∈rd,byte v) {x:Wh} {m:Nat} (h:wok m x) (hm:m≤90) {X:Nat} {Y:Nat} (hX:X<8) (hY:Y<8) (u v w:Int):ref22_leaps.F (x.w rd,(36,((X:Nat):Int),(Y:Int),u,v,w),())=some ((wholeS rd x 36 X Y).w rd,()):=by
 unfold ref22_leaps.F ref22_leaps.C ref22_leaps.G
 by_cases c4:(X:Int)=4
 ·refine (if_neg (show ¬(((X:Int)==4)==false)=true by rw [c4];decide)).trans ?_
  refine (if_pos (show ((36:Int)==36)=true by decide)).trans ?_
  have hh:holdS x.r (X:Int)=true:=by rw [c4];rfl
  rw [show wholeS rd x 36 X Y=(if holdS x.r X=true then (nextW rd x 2).wr (setPC x.r ((pcR (nextW rd x 2).r+sgn (x.v rd))%65536)) else nextW rd x 2) from rfl]
  rw [if_pos hh]
  refine (bind_eq (nexts h (by omega) 2)).trans ?_
  refine (bind_eq (signed_spec (v_ok hd x))).trans ?_
  exact bind_eq (more_spec (w:=pcR (nextW rd x 2).r) (h.next 2).r.pc (sgn_lo (v_ok hd x)) (sgn_hi (v_ok hd x)))
 ·refine (if_pos (show (((X:Int)==4)==false)=true by rw [beq_eq_false_iff_ne.2 c4];rfl)).trans ?_
  refine (bind_eq (rholds_spec (r:=x.r) h.r (X:Int))).trans ?_
  refine (if_pos (show ((36:Int)==36)=true by decide)).trans ?_
  rw [show wholeS rd x 36 X Y=(if holdS x.r X=true then (nextW rd x 2).wr (setPC x.r ((pcR (nextW rd x 2).r+sgn (x.v rd))%65536)) else nextW rd x 2) from rfl]
  refine (bind_eq (nexts h (by omega) 2)).trans ?_
  refine (bind_eq (signed_spec (v_ok hd x))).trans ?_
  refine (bind_eq (more_spec (w:=pcR (nextW rd x 2).r) (h.next 2).r.pc (sgn_lo (v_ok hd x)) (sgn_hi (v_ok hd x)))).trans ?_
  by_cases hh:holdS x.r (X:Int)=true
  ·refine (if_pos hh).trans ?_
   exact (congrArg (fun q:Wh=>(some (q.w rd,()):Option (WW×Unit))) (if_pos hh:(if holdS x.r (X:Int)=true then (nextW rd x 2).wr (setPC x.r ((pcR (nextW rd x 2).r+sgn (x.v rd))%65536)) else nextW rd x 2)=(nextW rd x 2).wr (setPC x.r ((pcR (nextW rd x 2).r+sgn (x.v rd))%65536)))).symm
  ·refine (if_neg hh).trans ?_
   exact (congrArg (fun q:Wh=>(some (q.w rd,()):Option (WW×Unit))) (if_neg hh)).symm
theorem leaps37 {rd:List Int} (hd:∀ v∈rd,byte v) {x:Wh} {m:Nat} (h:wok m x) (hm:m≤90) {X:Nat} {Y:Nat} (hX:X<8) (hY:Y<8) (u v w:Int):ref22_leaps.F (x.w rd,(37,((X:Nat):Int),(Y:Int),u,v,w),())=some ((wholeS rd x 37 X Y).w rd,()):=by
 unfold ref22_leaps.F ref22_leaps.C ref22_leaps.G
 by_cases c4:(X:Int)=4
 ·refine (if_neg (show ¬(((X:Int)==4)==false)=true by rw [c4];decide)).trans ?_
  refine (if_neg (show ¬((37:Int)==36)=true by decide)).trans ?_
  refine (if_pos (show ((37:Int)==37)=true by decide)).trans ?_
  have hh:holdS x.r (X:Int)=true:=by rw [c4];rfl
  rw [show wholeS rd x 37 X Y=(if holdS x.r X=true then (wordW rd x).wr (setPC x.r (wordV rd x)) else wordW rd x) from rfl]
  rw [if_pos hh]
  exact bind_eq (words hd h (by omega))
 ·refine (if_pos (show (((X:Int)==4)==false)=true by rw [beq_eq_false_iff_ne.2 c4];rfl)).trans ?_
  refine (bind_eq (rholds_spec (r:=x.r) h.r (X:Int))).trans ?_
  refine (if_neg (show ¬((37:Int)==36)=true by decide)).trans ?_
  refine (if_pos (show ((37:Int)==37)=true by decide)).trans ?_
  rw [show wholeS rd x 37 X Y=(if holdS x.r X=true then (wordW rd x).wr (setPC x.r (wordV rd x)) else wordW rd x) from rfl]
  refine (bind_eq (words hd h (by omega))).trans ?_
  by_cases hh:holdS x.r (X:Int)=true
  ·refine (if_pos hh).trans ?_
   exact (congrArg (fun q:Wh=>(some (q.w rd,()):Option (WW×Unit))) (if_pos hh:(if holdS x.r (X:Int)=true then (wordW rd x).wr (setPC x.r (wordV rd x)) else wordW rd x)=(wordW rd x).wr (setPC x.r (wordV rd x)))).symm
  ·refine (if_neg hh).trans ?_
   exact (congrArg (fun q:Wh=>(some (q.w rd,()):Option (WW×Unit))) (if_neg hh)).symm
theorem leaps38 {rd:List Int} (hd:∀ v∈rd,byte v) {x:Wh} {m:Nat} (h:wok m x) (hm:m≤90) {X:Nat} {Y:Nat} (hX:X<8) (hY:Y<8) (u v w:Int):ref22_leaps.F (x.w rd,(38,((X:Nat):Int),(Y:Int),u,v,w),())=some ((wholeS rd x 38 X Y).w rd,()):=by
 unfold ref22_leaps.F ref22_leaps.C ref22_leaps.G
 by_cases c4:(X:Int)=4
 ·refine (if_neg (show ¬(((X:Int)==4)==false)=true by rw [c4];decide)).trans ?_
  refine (if_neg (show ¬((38:Int)==36)=true by decide)).trans ?_
  refine (if_neg (show ¬((38:Int)==37)=true by decide)).trans ?_
  refine (if_pos (show ((38:Int)==38)=true by decide)).trans ?_
  exact bind_eq (twos h (n:=2) (by decide))
 ·refine (if_pos (show (((X:Int)==4)==false)=true by rw [beq_eq_false_iff_ne.2 c4];rfl)).trans ?_
  refine (bind_eq (rholds_spec (r:=x.r) h.r (X:Int))).trans ?_
  refine (if_neg (show ¬((38:Int)==36)=true by decide)).trans ?_
  refine (if_neg (show ¬((38:Int)==37)=true by decide)).trans ?_
  refine (if_pos (show ((38:Int)==38)=true by decide)).trans ?_
  exact bind_eq (twos h (n:=2) (by decide))
theorem leaps39 {rd:List Int} (hd:∀ v∈rd,byte v) {x:Wh} {m:Nat} (h:wok m x) (hm:m≤90) {X:Nat} {Y:Nat} (hX:X<8) (hY:Y<8) (u v w:Int):ref22_leaps.F (x.w rd,(39,((X:Nat):Int),(Y:Int),u,v,w),())=some ((wholeS rd x 39 X Y).w rd,()):=by
 unfold ref22_leaps.F ref22_leaps.C ref22_leaps.G
 by_cases c4:(X:Int)=4
 ·refine (if_neg (show ¬(((X:Int)==4)==false)=true by rw [c4];decide)).trans ?_
  refine (if_neg (show ¬((39:Int)==36)=true by decide)).trans ?_
  refine (if_neg (show ¬((39:Int)==37)=true by decide)).trans ?_
  refine (if_neg (show ¬((39:Int)==38)=true by decide)).trans ?_
  refine (if_pos (show ((39:Int)==39)=true by decide)).trans ?_
  have hh:holdS x.r (X:Int)=true:=by rw [c4];rfl
  rw [show wholeS rd x 39 X Y=(if holdS x.r X=true then (fun t:Wh=>t.wr (setPC t.r (wordV rd x))) (pushW (wordW rd x) (pcR (wordW rd x).r)) else wordW rd x) from rfl]
  rw [if_pos hh]
  refine (bind_eq (words hd h (by omega))).trans ?_
  exact bind_eq (pushs h.word (by omega) (v:=pcR (wordW rd x).r) h.word.r.pc)
 ·refine (if_pos (show (((X:Int)==4)==false)=true by rw [beq_eq_false_iff_ne.2 c4];rfl)).trans ?_
  refine (bind_eq (rholds_spec (r:=x.r) h.r (X:Int))).trans ?_
  refine (if_neg (show ¬((39:Int)==36)=true by decide)).trans ?_
  refine (if_neg (show ¬((39:Int)==37)=true by decide)).trans ?_
  refine (if_neg (show ¬((39:Int)==38)=true by decide)).trans ?_
  refine (if_pos (show ((39:Int)==39)=true by decide)).trans ?_
  rw [show wholeS rd x 39 X Y=(if holdS x.r X=true then (fun t:Wh=>t.wr (setPC t.r (wordV rd x))) (pushW (wordW rd x) (pcR (wordW rd x).r)) else wordW rd x) from rfl]
  refine (bind_eq (words hd h (by omega))).trans ?_
  by_cases hh:holdS x.r (X:Int)=true
  ·refine (if_pos hh).trans ?_
   refine (bind_eq (pushs h.word (by omega) (v:=pcR (wordW rd x).r) h.word.r.pc)).trans ?_
   refine (if_pos hh).trans ?_
   exact (congrArg (fun q:Wh=>(some (q.w rd,()):Option (WW×Unit))) (if_pos hh:(if holdS x.r (X:Int)=true then (fun t:Wh=>t.wr (setPC t.r (wordV rd x))) (pushW (wordW rd x) (pcR (wordW rd x).r)) else wordW rd x)=(fun t:Wh=>t.wr (setPC t.r (wordV rd x))) (pushW (wordW rd x) (pcR (wordW rd x).r)))).symm
  ·refine (if_neg hh).trans ?_
   refine (if_neg hh).trans ?_
   exact (congrArg (fun q:Wh=>(some (q.w rd,()):Option (WW×Unit))) (if_neg hh)).symm
theorem leaps40 {rd:List Int} (hd:∀ v∈rd,byte v) {x:Wh} {m:Nat} (h:wok m x) (hm:m≤90) {X:Nat} {Y:Nat} (hX:X<8) (hY:Y<8) (u v w:Int):ref22_leaps.F (x.w rd,(40,((X:Nat):Int),(Y:Int),u,v,w),())=some ((wholeS rd x 40 X Y).w rd,()):=by
 unfold ref22_leaps.F ref22_leaps.C ref22_leaps.G
 by_cases c4:(X:Int)=4
 ·refine (if_neg (show ¬(((X:Int)==4)==false)=true by rw [c4];decide)).trans ?_
  refine (if_neg (show ¬((40:Int)==36)=true by decide)).trans ?_
  refine (if_neg (show ¬((40:Int)==37)=true by decide)).trans ?_
  refine (if_neg (show ¬((40:Int)==38)=true by decide)).trans ?_
  refine (if_neg (show ¬((40:Int)==39)=true by decide)).trans ?_
  refine (if_pos (show ((40:Int)==40)=true by decide)).trans ?_
  have hh:holdS x.r (X:Int)=true:=by rw [c4];rfl
  rw [show wholeS rd x 40 X Y=(if holdS x.r X=true then (popW rd x).wr (setPC (popW rd x).r (popV rd x)) else x) from rfl]
  rw [if_pos hh]
  exact bind_eq (pops hd h (by omega))
 ·refine (if_pos (show (((X:Int)==4)==false)=true by rw [beq_eq_false_iff_ne.2 c4];rfl)).trans ?_
  refine (bind_eq (rholds_spec (r:=x.r) h.r (X:Int))).trans ?_
  refine (if_neg (show ¬((40:Int)==36)=true by decide)).trans ?_
  refine (if_neg (show ¬((40:Int)==37)=true by decide)).trans ?_
  refine (if_neg (show ¬((40:Int)==38)=true by decide)).trans ?_
  refine (if_neg (show ¬((40:Int)==39)=true by decide)).trans ?_
  refine (if_pos (show ((40:Int)==40)=true by decide)).trans ?_
  rw [show wholeS rd x 40 X Y=(if holdS x.r X=true then (popW rd x).wr (setPC (popW rd x).r (popV rd x)) else x) from rfl]
  by_cases hh:holdS x.r (X:Int)=true
  ·refine (if_pos hh).trans ?_
   refine (bind_eq (pops hd h (by omega))).trans ?_
   refine (if_pos hh).trans ?_
   exact (congrArg (fun q:Wh=>(some (q.w rd,()):Option (WW×Unit))) (if_pos hh:(if holdS x.r (X:Int)=true then (popW rd x).wr (setPC (popW rd x).r (popV rd x)) else x)=(popW rd x).wr (setPC (popW rd x).r (popV rd x)))).symm
  ·refine (if_neg hh).trans ?_
   refine (if_neg hh).trans ?_
   exact (congrArg (fun q:Wh=>(some (q.w rd,()):Option (WW×Unit))) (if_neg hh)).symm
theorem leaps41 {rd:List Int} (hd:∀ v∈rd,byte v) {x:Wh} {m:Nat} (h:wok m x) (hm:m≤90) {X:Nat} {Y:Nat} (hX:X<8) (hY:Y<8) (u v w:Int):ref22_leaps.F (x.w rd,(41,((X:Nat):Int),(Y:Int),u,v,w),())=some ((wholeS rd x 41 X Y).w rd,()):=by
 unfold ref22_leaps.F ref22_leaps.C ref22_leaps.G
 by_cases c4:(X:Int)=4
 ·refine (if_neg (show ¬(((X:Int)==4)==false)=true by rw [c4];decide)).trans ?_
  refine (if_neg (show ¬((41:Int)==36)=true by decide)).trans ?_
  refine (if_neg (show ¬((41:Int)==37)=true by decide)).trans ?_
  refine (if_neg (show ¬((41:Int)==38)=true by decide)).trans ?_
  refine (if_neg (show ¬((41:Int)==39)=true by decide)).trans ?_
  refine (if_neg (show ¬((41:Int)==40)=true by decide)).trans ?_
  refine (if_pos (show ((41:Int)==41)=true by decide)).trans ?_
  exact bind_eq (returneds hd h (by omega))
 ·refine (if_pos (show (((X:Int)==4)==false)=true by rw [beq_eq_false_iff_ne.2 c4];rfl)).trans ?_
  refine (bind_eq (rholds_spec (r:=x.r) h.r (X:Int))).trans ?_
  refine (if_neg (show ¬((41:Int)==36)=true by decide)).trans ?_
  refine (if_neg (show ¬((41:Int)==37)=true by decide)).trans ?_
  refine (if_neg (show ¬((41:Int)==38)=true by decide)).trans ?_
  refine (if_neg (show ¬((41:Int)==39)=true by decide)).trans ?_
  refine (if_neg (show ¬((41:Int)==40)=true by decide)).trans ?_
  refine (if_pos (show ((41:Int)==41)=true by decide)).trans ?_
  exact bind_eq (returneds hd h (by omega))
theorem leaps42 {rd:List Int} (hd:∀ v∈rd,byte v) {x:Wh} {m:Nat} (h:wok m x) (hm:m≤90) {X:Nat} {Y:Nat} (hX:X<8) (hY:Y<8) (u v w:Int):ref22_leaps.F (x.w rd,(42,((X:Nat):Int),(Y:Int),u,v,w),())=some ((wholeS rd x 42 X Y).w rd,()):=by
 unfold ref22_leaps.F ref22_leaps.C ref22_leaps.G
 by_cases c4:(X:Int)=4
 ·refine (if_neg (show ¬(((X:Int)==4)==false)=true by rw [c4];decide)).trans ?_
  refine (if_neg (show ¬((42:Int)==36)=true by decide)).trans ?_
  refine (if_neg (show ¬((42:Int)==37)=true by decide)).trans ?_
  refine (if_neg (show ¬((42:Int)==38)=true by decide)).trans ?_
  refine (if_neg (show ¬((42:Int)==39)=true by decide)).trans ?_
  refine (if_neg (show ¬((42:Int)==40)=true by decide)).trans ?_
  refine (if_neg (show ¬((42:Int)==41)=true by decide)).trans ?_
  refine (if_pos (show ((42:Int)==42)=true by decide)).trans ?_
  exact bind_eq (pushs h (by omega) (v:=pcR x.r) h.r.pc)
 ·refine (if_pos (show (((X:Int)==4)==false)=true by rw [beq_eq_false_iff_ne.2 c4];rfl)).trans ?_
  refine (bind_eq (rholds_spec (r:=x.r) h.r (X:Int))).trans ?_
  refine (if_neg (show ¬((42:Int)==36)=true by decide)).trans ?_
  refine (if_neg (show ¬((42:Int)==37)=true by decide)).trans ?_
  refine (if_neg (show ¬((42:Int)==38)=true by decide)).trans ?_
  refine (if_neg (show ¬((42:Int)==39)=true by decide)).trans ?_
  refine (if_neg (show ¬((42:Int)==40)=true by decide)).trans ?_
  refine (if_neg (show ¬((42:Int)==41)=true by decide)).trans ?_
  refine (if_pos (show ((42:Int)==42)=true by decide)).trans ?_
  exact bind_eq (pushs h (by omega) (v:=pcR x.r) h.r.pc)
end Go.Proofs.YtmhkjafcfpgikaaGreat.E
