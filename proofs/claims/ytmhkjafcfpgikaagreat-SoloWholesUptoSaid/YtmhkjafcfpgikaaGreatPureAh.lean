/- Functions of the program as plain Lean, and what they come to. Conditions: none. -/
import Derived.Test.YtmhkjafcfpgikaaGreatEwD
import Derived.Test.YtmhkjafcfpgikaaGreatPureRh
open Go Go.Ew
namespace Go.Proofs.YtmhkjafcfpgikaaGreat.E
open Go.IntKind (wrap)
set_option linter.unusedVariables false
set_option linter.unusedSimpArgs false
set_option maxRecDepth 100000
structure frm (k:Int) (X Y:Nat):Prop where
 k0:0≤k
 k1:k<47
 x:X<8
 y:Y<8
 a:k=9∨k=10→X<4
 b:k=17∨k=22∨k=21∨k=27∨k=28∨k=29→X<5
 c:k=31→X<4
 d:k=7→¬((X:Int)=6∧(Y:Int)=6)
 e:k=21→X≠3
theorem frm_fin:∀ op:Fin 256,∀ cb:Bool,((T.formS (op.val:Int) cb).1=7→¬((T.formS (op.val:Int) cb).2.1=6∧(T.formS (op.val:Int) cb).2.2.1=6))∧((T.formS (op.val:Int) cb).1=21→(T.formS (op.val:Int) cb).2.1≠3)∧((T.formS (op.val:Int) cb).1=9∨(T.formS (op.val:Int) cb).1=10→(T.formS (op.val:Int) cb).2.1<4):=by decide +kernel
theorem frm_of {s:St} (h:sok s):∃ (k:Int) (X Y:Nat) (u v w:Int),s.f=(k,(X:Int),(Y:Int),u,v,w)∧frm k X Y:=by
 have fk:=fok_of h
 have a:=h.op.1
 have b:=h.op.2
 obtain ⟨m,hm⟩:=Int.eq_ofNat_of_zero_le a
 have ff:=frm_fin ⟨m,by omega⟩ s.cb
 rw [← hm] at ff
 change ((s.f).1=7→¬((s.f).2.1=6∧(s.f).2.2.1=6))∧((s.f).1=21→(s.f).2.1≠3)∧((s.f).1=9∨(s.f).1=10→(s.f).2.1<4) at ff
 rcases hf:s.f with ⟨k,x,y,u,v,w⟩
 rw [hf] at fk ff
 obtain ⟨f1,f2,f3⟩:=ff
 have c:=fk.x0;have d:=fk.x1;have e:=fk.y0;have f:=fk.y1
 have g:=fk.k0;have i:=fk.k1;have p:=fk.p;have q:=fk.q
 dsimp only at c d e f g i p q f1 f2 f3
 obtain ⟨X,rfl⟩:=Int.eq_ofNat_of_zero_le c
 obtain ⟨Y,rfl⟩:=Int.eq_ofNat_of_zero_le e
 exact ⟨k,X,Y,u,v,w,rfl,g,i,by omega,by omega,fun z=>by have:=f3 z;omega,fun z=>by have:=p z;omega,fun z=>by have:=q z;omega,f1,fun z y=>f2 z (by omega)⟩
theorem eqv_all (rd:List Int) {s:St} (n:Nat) (l:List A3) {k:Int} {X Y:Nat} {u v w:Int} (hf:s.f=(k,(X:Int),(Y:Int),u,v,w)) (h:frm k X Y):Eqv rd s n l k X Y:=by
 have k0:=h.k0
 have k1:=h.k1
 obtain rfl | rfl | rfl | rfl | rfl | rfl | rfl | rfl | rfl | rfl | rfl | rfl | rfl | rfl | rfl | rfl | rfl | rfl | rfl | rfl | rfl | rfl | rfl | rfl | rfl | rfl | rfl | rfl | rfl | rfl | rfl | rfl | rfl | rfl | rfl | rfl | rfl | rfl | rfl | rfl | rfl | rfl | rfl | rfl | rfl | rfl | rfl:k=0∨k=1∨k=2∨k=3∨k=4∨k=5∨k=6∨k=7∨k=8∨k=9∨k=10∨k=11∨k=12∨k=13∨k=14∨k=15∨k=16∨k=17∨k=18∨k=19∨k=20∨k=21∨k=22∨k=23∨k=24∨k=25∨k=26∨k=27∨k=28∨k=29∨k=30∨k=31∨k=32∨k=33∨k=34∨k=35∨k=36∨k=37∨k=38∨k=39∨k=40∨k=41∨k=42∨k=43∨k=44∨k=45∨k=46:=by omega
 ·exact eqv0 rd n l hf
 ·exact eqv1 rd n l hf
 ·exact eqv2 rd n l hf
 ·exact eqv3 rd n l hf
 ·exact eqv4 rd n l hf
 ·exact eqv5 rd n l hf
 ·exact eqv6 rd n l hf
 ·exact eqv7 rd n l hf (h.d rfl)
 ·exact eqv8 rd n l hf
 ·exact eqv9 rd n l hf (h.a (.inl rfl))
 ·exact eqv10 rd n l hf (h.a (.inr rfl))
 ·exact eqv11 rd n l hf
 ·exact eqv12 rd n l hf
 ·exact eqv13 rd n l hf
 ·exact eqv14 rd n l hf
 ·exact eqv15 rd n l hf
 ·exact eqv16 rd n l hf
 ·exact eqv17 rd n l hf
 ·exact eqv18 rd n l hf
 ·exact eqv19 rd n l hf
 ·exact eqv20 rd n l hf
 ·exact eqv21 rd n l hf (h.b (by decide)) (h.e rfl)
 ·exact eqv22 rd n l hf
 ·exact eqv23 rd n l hf
 ·exact eqv24 rd n l hf
 ·exact eqv25 rd n l hf
 ·exact eqv26 rd n l hf
 ·exact eqv27 rd n l hf
 ·exact eqv28 rd n l hf
 ·exact eqv29 rd n l hf
 ·exact eqv30 rd n l hf
 ·exact eqv31 rd n l hf
 ·exact eqv32 rd n l hf
 ·exact eqv33 rd n l hf
 ·exact eqv34 rd n l hf
 ·exact eqv35 rd n l hf
 ·exact eqv36 rd n l hf
 ·exact eqv37 rd n l hf
 ·exact eqv38 rd n l hf
 ·exact eqv39 rd n l hf
 ·exact eqv40 rd n l hf
 ·exact eqv41 rd n l hf
 ·exact eqv42 rd n l hf
 ·exact eqv43 rd n l hf
 ·exact eqv44 rd n l hf
 ·exact eqv45 rd n l hf
 ·exact eqv46 rd n l hf
noncomputable def tailE (w:WW) (y:(Int×Int×Int×Int×Int×Int)×Unit):Option (WW×Unit):=
 if (decide (y.1.1≥(36:Int))==true)=true then if decide (y.1.1≤(42:Int))=true then Option.bind (ref22_leaps.F (w,y)) fun y3=>some y3 else if (decide (y.1.1≥(7:Int))==true)=true then if decide (y.1.1≤(22:Int))=true then Option.bind (ref22_moves.F (w,y)) fun y3=>some y3 else if (y.1.1==(1:Int))=true then Option.bind (ref22_next.F (w,(2:Int),())) fun y3=>Option.bind (ref22_means.F (y3.1,y)) fun y4=>some y4 else Option.bind (ref22_means.F (w,y)) fun y3=>some y3 else if (y.1.1==(1:Int))=true then Option.bind (ref22_next.F (w,(2:Int),())) fun y3=>Option.bind (ref22_means.F (y3.1,y)) fun y4=>some y4 else Option.bind (ref22_means.F (w,y)) fun y3=>some y3 else if (decide (y.1.1≥(7:Int))==true)=true then if decide (y.1.1≤(22:Int))=true then Option.bind (ref22_moves.F (w,y)) fun y3=>some y3 else if (y.1.1==(1:Int))=true then Option.bind (ref22_next.F (w,(2:Int),())) fun y3=>Option.bind (ref22_means.F (y3.1,y)) fun y4=>some y4 else Option.bind (ref22_means.F (w,y)) fun y3=>some y3 else if (y.1.1==(1:Int))=true then Option.bind (ref22_next.F (w,(2:Int),())) fun y3=>Option.bind (ref22_means.F (y3.1,y)) fun y4=>some y4 else Option.bind (ref22_means.F (w,y)) fun y3=>some y3
theorem tail_whole {rd:List Int} (hd:∀ v∈rd,byte v) {x:Wh} {m:Nat} (g:wok m x) (hm:m≤80) {k:Int} {X Y:Nat} (u v w:Int) (h:frm k X Y):tailE (x.w rd) ((k,(X:Int),(Y:Int),u,v,w),())=some ((wholeS rd x k X Y).w rd,()):=by
 have hX:=h.x
 have hY:=h.y
 have hm9:m≤90:=by omega
 unfold tailE
 have k0:=h.k0
 have k1:=h.k1
 obtain rfl | rfl | rfl | rfl | rfl | rfl | rfl | rfl | rfl | rfl | rfl | rfl | rfl | rfl | rfl | rfl | rfl | rfl | rfl | rfl | rfl | rfl | rfl | rfl | rfl | rfl | rfl | rfl | rfl | rfl | rfl | rfl | rfl | rfl | rfl | rfl | rfl | rfl | rfl | rfl | rfl | rfl | rfl | rfl | rfl | rfl | rfl:k=0∨k=1∨k=2∨k=3∨k=4∨k=5∨k=6∨k=7∨k=8∨k=9∨k=10∨k=11∨k=12∨k=13∨k=14∨k=15∨k=16∨k=17∨k=18∨k=19∨k=20∨k=21∨k=22∨k=23∨k=24∨k=25∨k=26∨k=27∨k=28∨k=29∨k=30∨k=31∨k=32∨k=33∨k=34∨k=35∨k=36∨k=37∨k=38∨k=39∨k=40∨k=41∨k=42∨k=43∨k=44∨k=45∨k=46:=by omega
 ·refine (if_neg (show ¬(decide ((0:Int)≥36)==true)=true by decide)).trans ?_
  refine (if_neg (show ¬(decide ((0:Int)≥7)==true)=true by decide)).trans ?_
  refine (if_neg (show ¬((0:Int)==1)=true by decide)).trans ?_
  exact bind_eq (means_none g 0 _ _ _ _ _ (by decide))
 ·refine (if_neg (show ¬(decide ((1:Int)≥36)==true)=true by decide)).trans ?_
  refine (if_neg (show ¬(decide ((1:Int)≥7)==true)=true by decide)).trans ?_
  refine (if_pos (show ((1:Int)==1)=true by decide)).trans ?_
  refine (bind_eq (nexts g (by omega) 2)).trans ?_
  exact bind_eq (means_none (g.next 2) 1 _ _ _ _ _ (by decide))
 ·refine (if_neg (show ¬(decide ((2:Int)≥36)==true)=true by decide)).trans ?_
  refine (if_neg (show ¬(decide ((2:Int)≥7)==true)=true by decide)).trans ?_
  refine (if_neg (show ¬((2:Int)==1)=true by decide)).trans ?_
  exact bind_eq (means_none g 2 _ _ _ _ _ (by decide))
 ·refine (if_neg (show ¬(decide ((3:Int)≥36)==true)=true by decide)).trans ?_
  refine (if_neg (show ¬(decide ((3:Int)≥7)==true)=true by decide)).trans ?_
  refine (if_neg (show ¬((3:Int)==1)=true by decide)).trans ?_
  exact bind_eq (means_none g 3 _ _ _ _ _ (by decide))
 ·refine (if_neg (show ¬(decide ((4:Int)≥36)==true)=true by decide)).trans ?_
  refine (if_neg (show ¬(decide ((4:Int)≥7)==true)=true by decide)).trans ?_
  refine (if_neg (show ¬((4:Int)==1)=true by decide)).trans ?_
  exact bind_eq (means_none g 4 _ _ _ _ _ (by decide))
 ·refine (if_neg (show ¬(decide ((5:Int)≥36)==true)=true by decide)).trans ?_
  refine (if_neg (show ¬(decide ((5:Int)≥7)==true)=true by decide)).trans ?_
  refine (if_neg (show ¬((5:Int)==1)=true by decide)).trans ?_
  exact bind_eq (means_none g 5 _ _ _ _ _ (by decide))
 ·refine (if_neg (show ¬(decide ((6:Int)≥36)==true)=true by decide)).trans ?_
  refine (if_neg (show ¬(decide ((6:Int)≥7)==true)=true by decide)).trans ?_
  refine (if_neg (show ¬((6:Int)==1)=true by decide)).trans ?_
  exact bind_eq (means_none g 6 _ _ _ _ _ (by decide))
 ·refine (if_neg (show ¬(decide ((7:Int)≥36)==true)=true by decide)).trans ?_
  refine (if_pos (show (decide ((7:Int)≥7)==true)=true by decide)).trans ?_
  refine (if_pos (show decide ((7:Int)≤22)=true by decide)).trans ?_
  exact bind_eq (moves7 hd g hm9 hX hY u v w)
 ·refine (if_neg (show ¬(decide ((8:Int)≥36)==true)=true by decide)).trans ?_
  refine (if_pos (show (decide ((8:Int)≥7)==true)=true by decide)).trans ?_
  refine (if_pos (show decide ((8:Int)≤22)=true by decide)).trans ?_
  exact bind_eq (moves8 hd g hm9 hX hY u v w)
 ·refine (if_neg (show ¬(decide ((9:Int)≥36)==true)=true by decide)).trans ?_
  refine (if_pos (show (decide ((9:Int)≥7)==true)=true by decide)).trans ?_
  refine (if_pos (show decide ((9:Int)≤22)=true by decide)).trans ?_
  exact bind_eq (moves9 hd g hm9 hX hY (h.a (.inl rfl)) u v w)
 ·refine (if_neg (show ¬(decide ((10:Int)≥36)==true)=true by decide)).trans ?_
  refine (if_pos (show (decide ((10:Int)≥7)==true)=true by decide)).trans ?_
  refine (if_pos (show decide ((10:Int)≤22)=true by decide)).trans ?_
  exact bind_eq (moves10 hd g hm9 hX hY (h.a (.inr rfl)) u v w)
 ·refine (if_neg (show ¬(decide ((11:Int)≥36)==true)=true by decide)).trans ?_
  refine (if_pos (show (decide ((11:Int)≥7)==true)=true by decide)).trans ?_
  refine (if_pos (show decide ((11:Int)≤22)=true by decide)).trans ?_
  exact bind_eq (moves11 hd g hm9 hX hY u v w)
 ·refine (if_neg (show ¬(decide ((12:Int)≥36)==true)=true by decide)).trans ?_
  refine (if_pos (show (decide ((12:Int)≥7)==true)=true by decide)).trans ?_
  refine (if_pos (show decide ((12:Int)≤22)=true by decide)).trans ?_
  exact bind_eq (moves12 hd g hm9 hX hY u v w)
 ·refine (if_neg (show ¬(decide ((13:Int)≥36)==true)=true by decide)).trans ?_
  refine (if_pos (show (decide ((13:Int)≥7)==true)=true by decide)).trans ?_
  refine (if_pos (show decide ((13:Int)≤22)=true by decide)).trans ?_
  exact bind_eq (moves13 hd g hm9 hX hY u v w)
 ·refine (if_neg (show ¬(decide ((14:Int)≥36)==true)=true by decide)).trans ?_
  refine (if_pos (show (decide ((14:Int)≥7)==true)=true by decide)).trans ?_
  refine (if_pos (show decide ((14:Int)≤22)=true by decide)).trans ?_
  exact bind_eq (moves14 hd g hm9 hX hY u v w)
 ·refine (if_neg (show ¬(decide ((15:Int)≥36)==true)=true by decide)).trans ?_
  refine (if_pos (show (decide ((15:Int)≥7)==true)=true by decide)).trans ?_
  refine (if_pos (show decide ((15:Int)≤22)=true by decide)).trans ?_
  exact bind_eq (moves15 hd g hm9 hX hY u v w)
 ·refine (if_neg (show ¬(decide ((16:Int)≥36)==true)=true by decide)).trans ?_
  refine (if_pos (show (decide ((16:Int)≥7)==true)=true by decide)).trans ?_
  refine (if_pos (show decide ((16:Int)≤22)=true by decide)).trans ?_
  exact bind_eq (moves16 hd g hm9 hX hY u v w)
 ·refine (if_neg (show ¬(decide ((17:Int)≥36)==true)=true by decide)).trans ?_
  refine (if_pos (show (decide ((17:Int)≥7)==true)=true by decide)).trans ?_
  refine (if_pos (show decide ((17:Int)≤22)=true by decide)).trans ?_
  exact bind_eq (moves17 hd g hm9 hX hY (h.b (by decide)) u v w)
 ·refine (if_neg (show ¬(decide ((18:Int)≥36)==true)=true by decide)).trans ?_
  refine (if_pos (show (decide ((18:Int)≥7)==true)=true by decide)).trans ?_
  refine (if_pos (show decide ((18:Int)≤22)=true by decide)).trans ?_
  exact bind_eq (moves18 hd g hm9 hX hY u v w)
 ·refine (if_neg (show ¬(decide ((19:Int)≥36)==true)=true by decide)).trans ?_
  refine (if_pos (show (decide ((19:Int)≥7)==true)=true by decide)).trans ?_
  refine (if_pos (show decide ((19:Int)≤22)=true by decide)).trans ?_
  exact bind_eq (moves19 hd g hm9 hX hY u v w)
 ·refine (if_neg (show ¬(decide ((20:Int)≥36)==true)=true by decide)).trans ?_
  refine (if_pos (show (decide ((20:Int)≥7)==true)=true by decide)).trans ?_
  refine (if_pos (show decide ((20:Int)≤22)=true by decide)).trans ?_
  exact bind_eq (moves20 hd g hm9 hX hY u v w)
 ·refine (if_neg (show ¬(decide ((21:Int)≥36)==true)=true by decide)).trans ?_
  refine (if_pos (show (decide ((21:Int)≥7)==true)=true by decide)).trans ?_
  refine (if_pos (show decide ((21:Int)≤22)=true by decide)).trans ?_
  exact bind_eq (moves21 hd g hm9 hX hY (h.b (by decide)) u v w)
 ·refine (if_neg (show ¬(decide ((22:Int)≥36)==true)=true by decide)).trans ?_
  refine (if_pos (show (decide ((22:Int)≥7)==true)=true by decide)).trans ?_
  refine (if_pos (show decide ((22:Int)≤22)=true by decide)).trans ?_
  exact bind_eq (moves22 hd g hm9 hX hY (h.b (by decide)) u v w)
 ·refine (if_neg (show ¬(decide ((23:Int)≥36)==true)=true by decide)).trans ?_
  refine (if_pos (show (decide ((23:Int)≥7)==true)=true by decide)).trans ?_
  refine (if_neg (show ¬decide ((23:Int)≤22)=true by decide)).trans ?_
  refine (if_neg (show ¬((23:Int)==1)=true by decide)).trans ?_
  exact bind_eq (means23 hd g hm9 hX hY u v w)
 ·refine (if_neg (show ¬(decide ((24:Int)≥36)==true)=true by decide)).trans ?_
  refine (if_pos (show (decide ((24:Int)≥7)==true)=true by decide)).trans ?_
  refine (if_neg (show ¬decide ((24:Int)≤22)=true by decide)).trans ?_
  refine (if_neg (show ¬((24:Int)==1)=true by decide)).trans ?_
  exact bind_eq (means24 hd g hm9 hX hY u v w)
 ·refine (if_neg (show ¬(decide ((25:Int)≥36)==true)=true by decide)).trans ?_
  refine (if_pos (show (decide ((25:Int)≥7)==true)=true by decide)).trans ?_
  refine (if_neg (show ¬decide ((25:Int)≤22)=true by decide)).trans ?_
  refine (if_neg (show ¬((25:Int)==1)=true by decide)).trans ?_
  exact bind_eq (means25 hd g hm9 hX hY u v w)
 ·refine (if_neg (show ¬(decide ((26:Int)≥36)==true)=true by decide)).trans ?_
  refine (if_pos (show (decide ((26:Int)≥7)==true)=true by decide)).trans ?_
  refine (if_neg (show ¬decide ((26:Int)≤22)=true by decide)).trans ?_
  refine (if_neg (show ¬((26:Int)==1)=true by decide)).trans ?_
  exact bind_eq (means26 hd g hm9 hX hY u v w)
 ·refine (if_neg (show ¬(decide ((27:Int)≥36)==true)=true by decide)).trans ?_
  refine (if_pos (show (decide ((27:Int)≥7)==true)=true by decide)).trans ?_
  refine (if_neg (show ¬decide ((27:Int)≤22)=true by decide)).trans ?_
  refine (if_neg (show ¬((27:Int)==1)=true by decide)).trans ?_
  exact bind_eq (means27 hd g hm9 hX hY (h.b (by decide)) u v w)
 ·refine (if_neg (show ¬(decide ((28:Int)≥36)==true)=true by decide)).trans ?_
  refine (if_pos (show (decide ((28:Int)≥7)==true)=true by decide)).trans ?_
  refine (if_neg (show ¬decide ((28:Int)≤22)=true by decide)).trans ?_
  refine (if_neg (show ¬((28:Int)==1)=true by decide)).trans ?_
  exact bind_eq (means28 hd g hm9 hX hY (h.b (by decide)) u v w)
 ·refine (if_neg (show ¬(decide ((29:Int)≥36)==true)=true by decide)).trans ?_
  refine (if_pos (show (decide ((29:Int)≥7)==true)=true by decide)).trans ?_
  refine (if_neg (show ¬decide ((29:Int)≤22)=true by decide)).trans ?_
  refine (if_neg (show ¬((29:Int)==1)=true by decide)).trans ?_
  exact bind_eq (means29 hd g hm9 hX hY (h.b (by decide)) u v w)
 ·refine (if_neg (show ¬(decide ((30:Int)≥36)==true)=true by decide)).trans ?_
  refine (if_pos (show (decide ((30:Int)≥7)==true)=true by decide)).trans ?_
  refine (if_neg (show ¬decide ((30:Int)≤22)=true by decide)).trans ?_
  refine (if_neg (show ¬((30:Int)==1)=true by decide)).trans ?_
  exact bind_eq (means30 hd g hm9 hX hY u v w)
 ·refine (if_neg (show ¬(decide ((31:Int)≥36)==true)=true by decide)).trans ?_
  refine (if_pos (show (decide ((31:Int)≥7)==true)=true by decide)).trans ?_
  refine (if_neg (show ¬decide ((31:Int)≤22)=true by decide)).trans ?_
  refine (if_neg (show ¬((31:Int)==1)=true by decide)).trans ?_
  exact bind_eq (means31 hd g hm9 hX hY (h.c rfl) u v w)
 ·refine (if_neg (show ¬(decide ((32:Int)≥36)==true)=true by decide)).trans ?_
  refine (if_pos (show (decide ((32:Int)≥7)==true)=true by decide)).trans ?_
  refine (if_neg (show ¬decide ((32:Int)≤22)=true by decide)).trans ?_
  refine (if_neg (show ¬((32:Int)==1)=true by decide)).trans ?_
  exact bind_eq (means32 hd g hm9 hX hY u v w)
 ·refine (if_neg (show ¬(decide ((33:Int)≥36)==true)=true by decide)).trans ?_
  refine (if_pos (show (decide ((33:Int)≥7)==true)=true by decide)).trans ?_
  refine (if_neg (show ¬decide ((33:Int)≤22)=true by decide)).trans ?_
  refine (if_neg (show ¬((33:Int)==1)=true by decide)).trans ?_
  exact bind_eq (means33 hd g hm9 hX hY u v w)
 ·refine (if_neg (show ¬(decide ((34:Int)≥36)==true)=true by decide)).trans ?_
  refine (if_pos (show (decide ((34:Int)≥7)==true)=true by decide)).trans ?_
  refine (if_neg (show ¬decide ((34:Int)≤22)=true by decide)).trans ?_
  refine (if_neg (show ¬((34:Int)==1)=true by decide)).trans ?_
  exact bind_eq (means34 hd g hm9 hX hY u v w)
 ·refine (if_neg (show ¬(decide ((35:Int)≥36)==true)=true by decide)).trans ?_
  refine (if_pos (show (decide ((35:Int)≥7)==true)=true by decide)).trans ?_
  refine (if_neg (show ¬decide ((35:Int)≤22)=true by decide)).trans ?_
  refine (if_neg (show ¬((35:Int)==1)=true by decide)).trans ?_
  exact bind_eq (means35 hd g hm9 hX hY u v w)
 ·refine (if_pos (show (decide ((36:Int)≥36)==true)=true by decide)).trans ?_
  refine (if_pos (show decide ((36:Int)≤42)=true by decide)).trans ?_
  exact bind_eq (leaps36 hd g hm9 hX hY u v w)
 ·refine (if_pos (show (decide ((37:Int)≥36)==true)=true by decide)).trans ?_
  refine (if_pos (show decide ((37:Int)≤42)=true by decide)).trans ?_
  exact bind_eq (leaps37 hd g hm9 hX hY u v w)
 ·refine (if_pos (show (decide ((38:Int)≥36)==true)=true by decide)).trans ?_
  refine (if_pos (show decide ((38:Int)≤42)=true by decide)).trans ?_
  exact bind_eq (leaps38 hd g hm9 hX hY u v w)
 ·refine (if_pos (show (decide ((39:Int)≥36)==true)=true by decide)).trans ?_
  refine (if_pos (show decide ((39:Int)≤42)=true by decide)).trans ?_
  exact bind_eq (leaps39 hd g hm9 hX hY u v w)
 ·refine (if_pos (show (decide ((40:Int)≥36)==true)=true by decide)).trans ?_
  refine (if_pos (show decide ((40:Int)≤42)=true by decide)).trans ?_
  exact bind_eq (leaps40 hd g hm9 hX hY u v w)
 ·refine (if_pos (show (decide ((41:Int)≥36)==true)=true by decide)).trans ?_
  refine (if_pos (show decide ((41:Int)≤42)=true by decide)).trans ?_
  exact bind_eq (leaps41 hd g hm9 hX hY u v w)
 ·refine (if_pos (show (decide ((42:Int)≥36)==true)=true by decide)).trans ?_
  refine (if_pos (show decide ((42:Int)≤42)=true by decide)).trans ?_
  exact bind_eq (leaps42 hd g hm9 hX hY u v w)
 ·refine (if_pos (show (decide ((43:Int)≥36)==true)=true by decide)).trans ?_
  refine (if_neg (show ¬decide ((43:Int)≤42)=true by decide)).trans ?_
  refine (if_pos (show (decide ((43:Int)≥7)==true)=true by decide)).trans ?_
  refine (if_neg (show ¬decide ((43:Int)≤22)=true by decide)).trans ?_
  refine (if_neg (show ¬((43:Int)==1)=true by decide)).trans ?_
  exact bind_eq (means43 hd g hm9 hX hY u v w)
 ·refine (if_pos (show (decide ((44:Int)≥36)==true)=true by decide)).trans ?_
  refine (if_neg (show ¬decide ((44:Int)≤42)=true by decide)).trans ?_
  refine (if_pos (show (decide ((44:Int)≥7)==true)=true by decide)).trans ?_
  refine (if_neg (show ¬decide ((44:Int)≤22)=true by decide)).trans ?_
  refine (if_neg (show ¬((44:Int)==1)=true by decide)).trans ?_
  exact bind_eq (means44 hd g hm9 hX hY u v w)
 ·refine (if_pos (show (decide ((45:Int)≥36)==true)=true by decide)).trans ?_
  refine (if_neg (show ¬decide ((45:Int)≤42)=true by decide)).trans ?_
  refine (if_pos (show (decide ((45:Int)≥7)==true)=true by decide)).trans ?_
  refine (if_neg (show ¬decide ((45:Int)≤22)=true by decide)).trans ?_
  refine (if_neg (show ¬((45:Int)==1)=true by decide)).trans ?_
  exact bind_eq (means45 hd g hm9 hX hY u v w)
 ·refine (if_pos (show (decide ((46:Int)≥36)==true)=true by decide)).trans ?_
  refine (if_neg (show ¬decide ((46:Int)≤42)=true by decide)).trans ?_
  refine (if_pos (show (decide ((46:Int)≥7)==true)=true by decide)).trans ?_
  refine (if_neg (show ¬decide ((46:Int)≤22)=true by decide)).trans ?_
  refine (if_neg (show ¬((46:Int)==1)=true by decide)).trans ?_
  exact bind_eq (means46 hd g hm9 hX hY u v w)
def w0 (r:R10):Wh:=⟨r,0,[]⟩
def op1 (rd:List Int):Int:=rd.getD 0 0
def op2 (rd:List Int):Int:=rd.getD 1 0
def runW (rd:List Int) (r:R10):Wh:=
 if op1 rd=203 then wholeS rd (nextW rd (nextW rd (w0 r) 1) 1) (T.formS (op2 rd) true).1 (T.formS (op2 rd) true).2.1.toNat (T.formS (op2 rd) true).2.2.1.toNat
 else wholeS rd (nextW rd (w0 r) 1) (T.formS (op1 rd) false).1 (T.formS (op1 rd) false).2.1.toNat (T.formS (op1 rd) false).2.2.1.toNat
theorem frm_op {r:R10} (hr:rok r) {op:Int} (h:byte op) (cb:Bool):∃ (k:Int) (X Y:Nat) (u v w:Int),T.formS op cb=(k,(X:Int),(Y:Int),u,v,w)∧frm k X Y:=
 frm_of (s:=⟨r,false,false,false,0,op,cb,0,0,0⟩) ⟨hr,h,byte0,byte0,byte0⟩
theorem runs {rd:List Int} (hd:∀ v∈rd,byte v) {r:R10} (hr:rok r):ref22_Run.F (r,rd,())=some ((runW rd r).w rd,()):=by
 have g0:wok 0 (w0 r):=⟨hr,Nat.le_refl _,Nat.le_refl _⟩
 unfold ref22_Run.F ref22_Run.C ref22_Run.G
 refine (bind_eq (nexts g0 (by omega) 1)).trans ?_
 unfold runW
 by_cases c:op1 rd=203
 ·rw [if_pos c]
  refine (if_pos (show ((w0 r).v rd==203)=true by rw [beq_iff_eq];exact c)).trans ?_
  refine (bind_eq (nexts (g0.next 1) (by omega) 1)).trans ?_
  have hb:byte (op2 rd):=mem_byte hd _
  obtain ⟨k,X,Y,u,v,w,hf,hk⟩:=frm_op hr hb true
  have e:((w0 r).v rd==203)=true:=by rw [beq_iff_eq];exact c
  refine (bind_eq (show ref21_Form.F (op2 rd,(w0 r).v rd==203,())=_ by rw [e];exact rform_spec hb true)).trans ?_
  rw [hf]
  exact tail_whole hd ((g0.next 1).next 1) (by omega) u v w hk
 ·rw [if_neg c]
  have e:((w0 r).v rd==203)=false:=beq_eq_false_iff_ne.2 c
  refine (if_neg (show ¬((w0 r).v rd==203)=true by rw [e];decide)).trans ?_
  have hb:byte (op1 rd):=mem_byte hd _
  obtain ⟨k,X,Y,u,v,w,hf,hk⟩:=frm_op hr hb false
  refine (bind_eq (show ref21_Form.F (op1 rd,(w0 r).v rd==203,())=_ by rw [e];exact rform_spec hb false)).trans ?_
  rw [hf]
  exact tail_whole hd (g0.next 1) (by omega) u v w hk
end Go.Proofs.YtmhkjafcfpgikaaGreat.E
