/- Functions of the program as plain Lean, and what they come to. Conditions: none. -/
import Derived.Test.YtmhkjafcfpgikaaGreatEwD
import Derived.Test.YtmhkjafcfpgikaaGreatWalkP
import Derived.Test.YtmhkjafcfpgikaaGreatWalkQ
open Go Go.Ew
namespace Go.Proofs.YtmhkjafcfpgikaaGreat.T
set_option linter.unusedVariables false
set_option linter.unusedSimpArgs false
set_option maxRecDepth 100000
def planS (k x y:Int) (t:Bool):List (Int×Int×Int):=
 if k=1∨k=24 then [(1,1,1)]
 else if k=7 then (if x=6 then [(2,2,4)] else if y=6 then [(1,2,1)] else [])
 else if k=8 then (if x=6 then [(1,1,1),(2,2,1)] else [(1,1,1)])
 else if k=9 then [(1,3+x,1)]
 else if k=10 then [(2,3+x,3)]
 else if k=11 then [(1,1,1),(1,7,1)]
 else if k=12 then [(1,1,1),(2,7,3)]
 else if k=13 then [(1,8,1)]
 else if k=14 then [(2,8,3)]
 else if k=15 then [(1,1,1),(1,1,2),(1,9,1)]
 else if k=16 then [(1,1,1),(1,1,2),(2,9,3)]
 else if k=17 then [(1,1,1),(1,1,2)]
 else if k=18 then [(1,1,1),(1,1,2),(2,9,5),(2,10,6)]
 else if k=19∨k=27∨k=28∨k=29 then [(0,0,0)]
 else if k=20 then [(1,1,1),(0,0,0)]
 else if k=30 then [(1,1,1),(0,0,0),(0,0,0)]
 else if k=21 then [(0,0,0),(2,11,10),(2,11,11)]
 else if k=22 then [(1,12,1),(1,12,2)]
 else if k=23∨k=44 then (if y=6 then [(1,2,1)] else [])
 else if k=25∨k=26 then (if x=6 then [(1,2,1),(2,2,9)] else [])
 else if k=43∨k=45∨k=46 then (if y=6 then [(1,2,1),(2,2,9)] else [])
 else if k=36 then (if t=true∨x=4 then [(1,1,1),(0,0,0)] else [(1,1,1)])
 else if k=37 then (if t=true∨x=4 then [(1,1,1),(1,1,2),(0,0,0)] else [(1,1,1),(1,1,2)])
 else if k=39 then (if t=true∨x=4 then [(1,1,1),(1,1,2),(0,0,0),(2,11,8),(2,11,7)] else [(1,1,1),(1,1,2)])
 else if k=40 then (if x=4 then [(1,12,1),(1,12,2),(0,0,0)] else if t=true then [(0,0,0),(1,12,1),(1,12,2),(0,0,0)] else [(0,0,0)])
 else if k=41 then [(1,12,1),(1,12,2),(0,0,0)]
 else if k=42 then [(0,0,0),(2,11,8),(2,11,7)]
 else []
theorem and3:∀ x:Fin 4,bits .and .i64 (x.val:Int) 3=(x.val:Int):=by decide +kernel
theorem planG0 (op:Int) (cb t:Bool) (z:Int×Int×Int×Int×Int) (h1:cb=true→kc 0 op=some z) (h2:cb=false→kd 0 op=some z):plan0 (op,cb,t,())=some (planS 0 z.1 z.2.1 t,()):=by
 unfold plan0 planS
 cases cb
 ·simp only [Bool.false_eq_true,if_false,h2 rfl,Option.bind_some]
  cases t<;>simp
 ·simp only [if_true,h1 rfl,Option.bind_some]
  cases t<;>simp
theorem planG1 (op:Int) (cb t:Bool) (z:Int×Int×Int×Int×Int) (h1:cb=true→kc 1 op=some z) (h2:cb=false→kd 1 op=some z):plan1 (op,cb,t,())=some (planS 1 z.1 z.2.1 t,()):=by
 unfold plan1 planS
 cases cb
 ·simp only [Bool.false_eq_true,if_false,h2 rfl,Option.bind_some]
  cases t<;>simp
 ·simp only [if_true,h1 rfl,Option.bind_some]
  cases t<;>simp
theorem planG2 (op:Int) (cb t:Bool) (z:Int×Int×Int×Int×Int) (h1:cb=true→kc 2 op=some z) (h2:cb=false→kd 2 op=some z):plan2 (op,cb,t,())=some (planS 2 z.1 z.2.1 t,()):=by
 unfold plan2 planS
 cases cb
 ·simp only [Bool.false_eq_true,if_false,h2 rfl,Option.bind_some]
  cases t<;>simp
 ·simp only [if_true,h1 rfl,Option.bind_some]
  cases t<;>simp
theorem planG3 (op:Int) (cb t:Bool) (z:Int×Int×Int×Int×Int) (h1:cb=true→kc 3 op=some z) (h2:cb=false→kd 3 op=some z):plan3 (op,cb,t,())=some (planS 3 z.1 z.2.1 t,()):=by
 unfold plan3 planS
 cases cb
 ·simp only [Bool.false_eq_true,if_false,h2 rfl,Option.bind_some]
  cases t<;>simp
 ·simp only [if_true,h1 rfl,Option.bind_some]
  cases t<;>simp
theorem planG4 (op:Int) (cb t:Bool) (z:Int×Int×Int×Int×Int) (h1:cb=true→kc 4 op=some z) (h2:cb=false→kd 4 op=some z):plan4 (op,cb,t,())=some (planS 4 z.1 z.2.1 t,()):=by
 unfold plan4 planS
 cases cb
 ·simp only [Bool.false_eq_true,if_false,h2 rfl,Option.bind_some]
  cases t<;>simp
 ·simp only [if_true,h1 rfl,Option.bind_some]
  cases t<;>simp
theorem planG5 (op:Int) (cb t:Bool) (z:Int×Int×Int×Int×Int) (h1:cb=true→kc 5 op=some z) (h2:cb=false→kd 5 op=some z):plan5 (op,cb,t,())=some (planS 5 z.1 z.2.1 t,()):=by
 unfold plan5 planS
 cases cb
 ·simp only [Bool.false_eq_true,if_false,h2 rfl,Option.bind_some]
  cases t<;>simp
 ·simp only [if_true,h1 rfl,Option.bind_some]
  cases t<;>simp
theorem planG6 (op:Int) (cb t:Bool) (z:Int×Int×Int×Int×Int) (h1:cb=true→kc 6 op=some z) (h2:cb=false→kd 6 op=some z):plan6 (op,cb,t,())=some (planS 6 z.1 z.2.1 t,()):=by
 unfold plan6 planS
 cases cb
 ·simp only [Bool.false_eq_true,if_false,h2 rfl,Option.bind_some]
  cases t<;>simp
 ·simp only [if_true,h1 rfl,Option.bind_some]
  cases t<;>simp
theorem planG7 (op:Int) (cb t:Bool) (z:Int×Int×Int×Int×Int) (h1:cb=true→kc 7 op=some z) (h2:cb=false→kd 7 op=some z):plan7 (op,cb,t,())=some (planS 7 z.1 z.2.1 t,()):=by
 unfold plan7 planS
 cases cb
 ·simp only [Bool.false_eq_true,if_false,h2 rfl,Option.bind_some]
  by_cases q6:z.1=6<;>by_cases y6:z.2.1=6<;>cases t<;>simp [q6,y6,eq_comm (a:=(6:Int))]
 ·simp only [if_true,h1 rfl,Option.bind_some]
  by_cases q6:z.1=6<;>by_cases y6:z.2.1=6<;>cases t<;>simp [q6,y6,eq_comm (a:=(6:Int))]
theorem planG8 (op:Int) (cb t:Bool) (z:Int×Int×Int×Int×Int) (h1:cb=true→kc 8 op=some z) (h2:cb=false→kd 8 op=some z):plan8 (op,cb,t,())=some (planS 8 z.1 z.2.1 t,()):=by
 unfold plan8 planS
 cases cb
 ·simp only [Bool.false_eq_true,if_false,h2 rfl,Option.bind_some]
  by_cases q6:z.1=6<;>cases t<;>simp [q6]
 ·simp only [if_true,h1 rfl,Option.bind_some]
  by_cases q6:z.1=6<;>cases t<;>simp [q6]
theorem planG9 (op:Int) (cb t:Bool) (z:Int×Int×Int×Int×Int) (h1:cb=true→kc 9 op=some z) (h2:cb=false→kd 9 op=some z) (hx0:0≤z.1) (hx1:z.1<4):plan9 (op,cb,t,())=some (planS 9 z.1 z.2.1 t,()):=by
 unfold plan9 planS
 obtain ⟨n,hn,hn4⟩:∃ n:Nat,z.1=(n:Int)∧n<4:=⟨z.1.toNat,by omega,by omega⟩
 have e:=and3 ⟨n,hn4⟩
 simp only at e
 have:n=0∨n=1∨n=2∨n=3:=by omega
 cases cb
 ·simp only [Bool.false_eq_true,if_false,h2 rfl,Option.bind_some,hn,e]
  rcases this with rfl | rfl | rfl | rfl<;>rfl
 ·simp only [if_true,h1 rfl,Option.bind_some,hn,e]
  rcases this with rfl | rfl | rfl | rfl<;>rfl
theorem planG10 (op:Int) (cb t:Bool) (z:Int×Int×Int×Int×Int) (h1:cb=true→kc 10 op=some z) (h2:cb=false→kd 10 op=some z) (hx0:0≤z.1) (hx1:z.1<4):plan10 (op,cb,t,())=some (planS 10 z.1 z.2.1 t,()):=by
 unfold plan10 planS
 obtain ⟨n,hn,hn4⟩:∃ n:Nat,z.1=(n:Int)∧n<4:=⟨z.1.toNat,by omega,by omega⟩
 have e:=and3 ⟨n,hn4⟩
 simp only at e
 have:n=0∨n=1∨n=2∨n=3:=by omega
 cases cb
 ·simp only [Bool.false_eq_true,if_false,h2 rfl,Option.bind_some,hn,e]
  rcases this with rfl | rfl | rfl | rfl<;>rfl
 ·simp only [if_true,h1 rfl,Option.bind_some,hn,e]
  rcases this with rfl | rfl | rfl | rfl<;>rfl
theorem planG11 (op:Int) (cb t:Bool) (z:Int×Int×Int×Int×Int) (h1:cb=true→kc 11 op=some z) (h2:cb=false→kd 11 op=some z):plan11 (op,cb,t,())=some (planS 11 z.1 z.2.1 t,()):=by
 unfold plan11 planS
 cases cb
 ·simp only [Bool.false_eq_true,if_false,h2 rfl,Option.bind_some]
  cases t<;>simp
 ·simp only [if_true,h1 rfl,Option.bind_some]
  cases t<;>simp
theorem planG12 (op:Int) (cb t:Bool) (z:Int×Int×Int×Int×Int) (h1:cb=true→kc 12 op=some z) (h2:cb=false→kd 12 op=some z):plan12 (op,cb,t,())=some (planS 12 z.1 z.2.1 t,()):=by
 unfold plan12 planS
 cases cb
 ·simp only [Bool.false_eq_true,if_false,h2 rfl,Option.bind_some]
  cases t<;>simp
 ·simp only [if_true,h1 rfl,Option.bind_some]
  cases t<;>simp
theorem planG13 (op:Int) (cb t:Bool) (z:Int×Int×Int×Int×Int) (h1:cb=true→kc 13 op=some z) (h2:cb=false→kd 13 op=some z):plan13 (op,cb,t,())=some (planS 13 z.1 z.2.1 t,()):=by
 unfold plan13 planS
 cases cb
 ·simp only [Bool.false_eq_true,if_false,h2 rfl,Option.bind_some]
  cases t<;>simp
 ·simp only [if_true,h1 rfl,Option.bind_some]
  cases t<;>simp
theorem planG14 (op:Int) (cb t:Bool) (z:Int×Int×Int×Int×Int) (h1:cb=true→kc 14 op=some z) (h2:cb=false→kd 14 op=some z):plan14 (op,cb,t,())=some (planS 14 z.1 z.2.1 t,()):=by
 unfold plan14 planS
 cases cb
 ·simp only [Bool.false_eq_true,if_false,h2 rfl,Option.bind_some]
  cases t<;>simp
 ·simp only [if_true,h1 rfl,Option.bind_some]
  cases t<;>simp
theorem planG15 (op:Int) (cb t:Bool) (z:Int×Int×Int×Int×Int) (h1:cb=true→kc 15 op=some z) (h2:cb=false→kd 15 op=some z):plan15 (op,cb,t,())=some (planS 15 z.1 z.2.1 t,()):=by
 unfold plan15 planS
 cases cb
 ·simp only [Bool.false_eq_true,if_false,h2 rfl,Option.bind_some]
  cases t<;>simp
 ·simp only [if_true,h1 rfl,Option.bind_some]
  cases t<;>simp
theorem planG16 (op:Int) (cb t:Bool) (z:Int×Int×Int×Int×Int) (h1:cb=true→kc 16 op=some z) (h2:cb=false→kd 16 op=some z):plan16 (op,cb,t,())=some (planS 16 z.1 z.2.1 t,()):=by
 unfold plan16 planS
 cases cb
 ·simp only [Bool.false_eq_true,if_false,h2 rfl,Option.bind_some]
  cases t<;>simp
 ·simp only [if_true,h1 rfl,Option.bind_some]
  cases t<;>simp
theorem planG17 (op:Int) (cb t:Bool) (z:Int×Int×Int×Int×Int) (h1:cb=true→kc 17 op=some z) (h2:cb=false→kd 17 op=some z):plan17 (op,cb,t,())=some (planS 17 z.1 z.2.1 t,()):=by
 unfold plan17 planS
 cases cb
 ·simp only [Bool.false_eq_true,if_false,h2 rfl,Option.bind_some]
  cases t<;>simp
 ·simp only [if_true,h1 rfl,Option.bind_some]
  cases t<;>simp
theorem planG18 (op:Int) (cb t:Bool) (z:Int×Int×Int×Int×Int) (h1:cb=true→kc 18 op=some z) (h2:cb=false→kd 18 op=some z):plan18 (op,cb,t,())=some (planS 18 z.1 z.2.1 t,()):=by
 unfold plan18 planS
 cases cb
 ·simp only [Bool.false_eq_true,if_false,h2 rfl,Option.bind_some]
  cases t<;>simp
 ·simp only [if_true,h1 rfl,Option.bind_some]
  cases t<;>simp
theorem planG19 (op:Int) (cb t:Bool) (z:Int×Int×Int×Int×Int) (h1:cb=true→kc 19 op=some z) (h2:cb=false→kd 19 op=some z):plan19 (op,cb,t,())=some (planS 19 z.1 z.2.1 t,()):=by
 unfold plan19 planS
 cases cb
 ·simp only [Bool.false_eq_true,if_false,h2 rfl,Option.bind_some]
  cases t<;>simp
 ·simp only [if_true,h1 rfl,Option.bind_some]
  cases t<;>simp
theorem planG20 (op:Int) (cb t:Bool) (z:Int×Int×Int×Int×Int) (h1:cb=true→kc 20 op=some z) (h2:cb=false→kd 20 op=some z):plan20 (op,cb,t,())=some (planS 20 z.1 z.2.1 t,()):=by
 unfold plan20 planS
 cases cb
 ·simp only [Bool.false_eq_true,if_false,h2 rfl,Option.bind_some]
  cases t<;>simp
 ·simp only [if_true,h1 rfl,Option.bind_some]
  cases t<;>simp
theorem planG21 (op:Int) (cb t:Bool) (z:Int×Int×Int×Int×Int) (h1:cb=true→kc 21 op=some z) (h2:cb=false→kd 21 op=some z):plan21 (op,cb,t,())=some (planS 21 z.1 z.2.1 t,()):=by
 unfold plan21 planS
 cases cb
 ·simp only [Bool.false_eq_true,if_false,h2 rfl,Option.bind_some]
  cases t<;>simp
 ·simp only [if_true,h1 rfl,Option.bind_some]
  cases t<;>simp
theorem planG22 (op:Int) (cb t:Bool) (z:Int×Int×Int×Int×Int) (h1:cb=true→kc 22 op=some z) (h2:cb=false→kd 22 op=some z):plan22 (op,cb,t,())=some (planS 22 z.1 z.2.1 t,()):=by
 unfold plan22 planS
 cases cb
 ·simp only [Bool.false_eq_true,if_false,h2 rfl,Option.bind_some]
  cases t<;>simp
 ·simp only [if_true,h1 rfl,Option.bind_some]
  cases t<;>simp
theorem planG23 (op:Int) (cb t:Bool) (z:Int×Int×Int×Int×Int) (h1:cb=true→kc 23 op=some z) (h2:cb=false→kd 23 op=some z):plan23 (op,cb,t,())=some (planS 23 z.1 z.2.1 t,()):=by
 unfold plan23 planS
 cases cb
 ·simp only [Bool.false_eq_true,if_false,h2 rfl,Option.bind_some]
  by_cases y6:z.2.1=6<;>cases t<;>simp [y6]
 ·simp only [if_true,h1 rfl,Option.bind_some]
  by_cases y6:z.2.1=6<;>cases t<;>simp [y6]
theorem planG24 (op:Int) (cb t:Bool) (z:Int×Int×Int×Int×Int) (h1:cb=true→kc 24 op=some z) (h2:cb=false→kd 24 op=some z):plan24 (op,cb,t,())=some (planS 24 z.1 z.2.1 t,()):=by
 unfold plan24 planS
 cases cb
 ·simp only [Bool.false_eq_true,if_false,h2 rfl,Option.bind_some]
  cases t<;>simp
 ·simp only [if_true,h1 rfl,Option.bind_some]
  cases t<;>simp
theorem planG25 (op:Int) (cb t:Bool) (z:Int×Int×Int×Int×Int) (h1:cb=true→kc 25 op=some z) (h2:cb=false→kd 25 op=some z):plan25 (op,cb,t,())=some (planS 25 z.1 z.2.1 t,()):=by
 unfold plan25 planS
 cases cb
 ·simp only [Bool.false_eq_true,if_false,h2 rfl,Option.bind_some]
  by_cases q6:z.1=6<;>cases t<;>simp [q6]
 ·simp only [if_true,h1 rfl,Option.bind_some]
  by_cases q6:z.1=6<;>cases t<;>simp [q6]
theorem planG26 (op:Int) (cb t:Bool) (z:Int×Int×Int×Int×Int) (h1:cb=true→kc 26 op=some z) (h2:cb=false→kd 26 op=some z):plan26 (op,cb,t,())=some (planS 26 z.1 z.2.1 t,()):=by
 unfold plan26 planS
 cases cb
 ·simp only [Bool.false_eq_true,if_false,h2 rfl,Option.bind_some]
  by_cases q6:z.1=6<;>cases t<;>simp [q6]
 ·simp only [if_true,h1 rfl,Option.bind_some]
  by_cases q6:z.1=6<;>cases t<;>simp [q6]
theorem planG27 (op:Int) (cb t:Bool) (z:Int×Int×Int×Int×Int) (h1:cb=true→kc 27 op=some z) (h2:cb=false→kd 27 op=some z):plan27 (op,cb,t,())=some (planS 27 z.1 z.2.1 t,()):=by
 unfold plan27 planS
 cases cb
 ·simp only [Bool.false_eq_true,if_false,h2 rfl,Option.bind_some]
  cases t<;>simp
 ·simp only [if_true,h1 rfl,Option.bind_some]
  cases t<;>simp
theorem planG28 (op:Int) (cb t:Bool) (z:Int×Int×Int×Int×Int) (h1:cb=true→kc 28 op=some z) (h2:cb=false→kd 28 op=some z):plan28 (op,cb,t,())=some (planS 28 z.1 z.2.1 t,()):=by
 unfold plan28 planS
 cases cb
 ·simp only [Bool.false_eq_true,if_false,h2 rfl,Option.bind_some]
  cases t<;>simp
 ·simp only [if_true,h1 rfl,Option.bind_some]
  cases t<;>simp
theorem planG29 (op:Int) (cb t:Bool) (z:Int×Int×Int×Int×Int) (h1:cb=true→kc 29 op=some z) (h2:cb=false→kd 29 op=some z):plan29 (op,cb,t,())=some (planS 29 z.1 z.2.1 t,()):=by
 unfold plan29 planS
 cases cb
 ·simp only [Bool.false_eq_true,if_false,h2 rfl,Option.bind_some]
  cases t<;>simp
 ·simp only [if_true,h1 rfl,Option.bind_some]
  cases t<;>simp
theorem planG30 (op:Int) (cb t:Bool) (z:Int×Int×Int×Int×Int) (h1:cb=true→kc 30 op=some z) (h2:cb=false→kd 30 op=some z):plan30 (op,cb,t,())=some (planS 30 z.1 z.2.1 t,()):=by
 unfold plan30 planS
 cases cb
 ·simp only [Bool.false_eq_true,if_false,h2 rfl,Option.bind_some]
  cases t<;>simp
 ·simp only [if_true,h1 rfl,Option.bind_some]
  cases t<;>simp
theorem planG31 (op:Int) (cb t:Bool) (z:Int×Int×Int×Int×Int) (h1:cb=true→kc 31 op=some z) (h2:cb=false→kd 31 op=some z):plan31 (op,cb,t,())=some (planS 31 z.1 z.2.1 t,()):=by
 unfold plan31 planS
 cases cb
 ·simp only [Bool.false_eq_true,if_false,h2 rfl,Option.bind_some]
  cases t<;>simp
 ·simp only [if_true,h1 rfl,Option.bind_some]
  cases t<;>simp
theorem planG32 (op:Int) (cb t:Bool) (z:Int×Int×Int×Int×Int) (h1:cb=true→kc 32 op=some z) (h2:cb=false→kd 32 op=some z):plan32 (op,cb,t,())=some (planS 32 z.1 z.2.1 t,()):=by
 unfold plan32 planS
 cases cb
 ·simp only [Bool.false_eq_true,if_false,h2 rfl,Option.bind_some]
  cases t<;>simp
 ·simp only [if_true,h1 rfl,Option.bind_some]
  cases t<;>simp
theorem planG33 (op:Int) (cb t:Bool) (z:Int×Int×Int×Int×Int) (h1:cb=true→kc 33 op=some z) (h2:cb=false→kd 33 op=some z):plan33 (op,cb,t,())=some (planS 33 z.1 z.2.1 t,()):=by
 unfold plan33 planS
 cases cb
 ·simp only [Bool.false_eq_true,if_false,h2 rfl,Option.bind_some]
  cases t<;>simp
 ·simp only [if_true,h1 rfl,Option.bind_some]
  cases t<;>simp
theorem planG34 (op:Int) (cb t:Bool) (z:Int×Int×Int×Int×Int) (h1:cb=true→kc 34 op=some z) (h2:cb=false→kd 34 op=some z):plan34 (op,cb,t,())=some (planS 34 z.1 z.2.1 t,()):=by
 unfold plan34 planS
 cases cb
 ·simp only [Bool.false_eq_true,if_false,h2 rfl,Option.bind_some]
  cases t<;>simp
 ·simp only [if_true,h1 rfl,Option.bind_some]
  cases t<;>simp
theorem planG35 (op:Int) (cb t:Bool) (z:Int×Int×Int×Int×Int) (h1:cb=true→kc 35 op=some z) (h2:cb=false→kd 35 op=some z):plan35 (op,cb,t,())=some (planS 35 z.1 z.2.1 t,()):=by
 unfold plan35 planS
 cases cb
 ·simp only [Bool.false_eq_true,if_false,h2 rfl,Option.bind_some]
  cases t<;>simp
 ·simp only [if_true,h1 rfl,Option.bind_some]
  cases t<;>simp
theorem planG36 (op:Int) (cb t:Bool) (z:Int×Int×Int×Int×Int) (h1:cb=true→kc 36 op=some z) (h2:cb=false→kd 36 op=some z):plan36 (op,cb,t,())=some (planS 36 z.1 z.2.1 t,()):=by
 unfold plan36 planS
 cases cb
 ·simp only [Bool.false_eq_true,if_false,h2 rfl,Option.bind_some]
  by_cases q4:z.1=4<;>cases t<;>simp [q4]
 ·simp only [if_true,h1 rfl,Option.bind_some]
  by_cases q4:z.1=4<;>cases t<;>simp [q4]
theorem planG37 (op:Int) (cb t:Bool) (z:Int×Int×Int×Int×Int) (h1:cb=true→kc 37 op=some z) (h2:cb=false→kd 37 op=some z):plan37 (op,cb,t,())=some (planS 37 z.1 z.2.1 t,()):=by
 unfold plan37 planS
 cases cb
 ·simp only [Bool.false_eq_true,if_false,h2 rfl,Option.bind_some]
  by_cases q4:z.1=4<;>cases t<;>simp [q4]
 ·simp only [if_true,h1 rfl,Option.bind_some]
  by_cases q4:z.1=4<;>cases t<;>simp [q4]
theorem planG38 (op:Int) (cb t:Bool) (z:Int×Int×Int×Int×Int) (h1:cb=true→kc 38 op=some z) (h2:cb=false→kd 38 op=some z):plan38 (op,cb,t,())=some (planS 38 z.1 z.2.1 t,()):=by
 unfold plan38 planS
 cases cb
 ·simp only [Bool.false_eq_true,if_false,h2 rfl,Option.bind_some]
  cases t<;>simp
 ·simp only [if_true,h1 rfl,Option.bind_some]
  cases t<;>simp
theorem planG39 (op:Int) (cb t:Bool) (z:Int×Int×Int×Int×Int) (h1:cb=true→kc 39 op=some z) (h2:cb=false→kd 39 op=some z):plan39 (op,cb,t,())=some (planS 39 z.1 z.2.1 t,()):=by
 unfold plan39 planS
 cases cb
 ·simp only [Bool.false_eq_true,if_false,h2 rfl,Option.bind_some]
  by_cases q4:z.1=4<;>cases t<;>simp [q4]
 ·simp only [if_true,h1 rfl,Option.bind_some]
  by_cases q4:z.1=4<;>cases t<;>simp [q4]
theorem planG40 (op:Int) (cb t:Bool) (z:Int×Int×Int×Int×Int) (h1:cb=true→kc 40 op=some z) (h2:cb=false→kd 40 op=some z):plan40 (op,cb,t,())=some (planS 40 z.1 z.2.1 t,()):=by
 unfold plan40 planS
 cases cb
 ·simp only [Bool.false_eq_true,if_false,h2 rfl,Option.bind_some]
  by_cases q4:z.1=4<;>cases t<;>simp [q4]
 ·simp only [if_true,h1 rfl,Option.bind_some]
  by_cases q4:z.1=4<;>cases t<;>simp [q4]
theorem planG41 (op:Int) (cb t:Bool) (z:Int×Int×Int×Int×Int) (h1:cb=true→kc 41 op=some z) (h2:cb=false→kd 41 op=some z):plan41 (op,cb,t,())=some (planS 41 z.1 z.2.1 t,()):=by
 unfold plan41 planS
 cases cb
 ·simp only [Bool.false_eq_true,if_false,h2 rfl,Option.bind_some]
  cases t<;>simp
 ·simp only [if_true,h1 rfl,Option.bind_some]
  cases t<;>simp
theorem planG42 (op:Int) (cb t:Bool) (z:Int×Int×Int×Int×Int) (h1:cb=true→kc 42 op=some z) (h2:cb=false→kd 42 op=some z):plan42 (op,cb,t,())=some (planS 42 z.1 z.2.1 t,()):=by
 unfold plan42 planS
 cases cb
 ·simp only [Bool.false_eq_true,if_false,h2 rfl,Option.bind_some]
  cases t<;>simp
 ·simp only [if_true,h1 rfl,Option.bind_some]
  cases t<;>simp
theorem planG43 (op:Int) (cb t:Bool) (z:Int×Int×Int×Int×Int) (h1:cb=true→kc 43 op=some z) (h2:cb=false→kd 43 op=some z):plan43 (op,cb,t,())=some (planS 43 z.1 z.2.1 t,()):=by
 unfold plan43 planS
 cases cb
 ·simp only [Bool.false_eq_true,if_false,h2 rfl,Option.bind_some]
  by_cases y6:z.2.1=6<;>cases t<;>simp [y6]
 ·simp only [if_true,h1 rfl,Option.bind_some]
  by_cases y6:z.2.1=6<;>cases t<;>simp [y6]
theorem planG44 (op:Int) (cb t:Bool) (z:Int×Int×Int×Int×Int) (h1:cb=true→kc 44 op=some z) (h2:cb=false→kd 44 op=some z):plan44 (op,cb,t,())=some (planS 44 z.1 z.2.1 t,()):=by
 unfold plan44 planS
 cases cb
 ·simp only [Bool.false_eq_true,if_false,h2 rfl,Option.bind_some]
  by_cases y6:z.2.1=6<;>cases t<;>simp [y6]
 ·simp only [if_true,h1 rfl,Option.bind_some]
  by_cases y6:z.2.1=6<;>cases t<;>simp [y6]
theorem planG45 (op:Int) (cb t:Bool) (z:Int×Int×Int×Int×Int) (h1:cb=true→kc 45 op=some z) (h2:cb=false→kd 45 op=some z):plan45 (op,cb,t,())=some (planS 45 z.1 z.2.1 t,()):=by
 unfold plan45 planS
 cases cb
 ·simp only [Bool.false_eq_true,if_false,h2 rfl,Option.bind_some]
  by_cases y6:z.2.1=6<;>cases t<;>simp [y6]
 ·simp only [if_true,h1 rfl,Option.bind_some]
  by_cases y6:z.2.1=6<;>cases t<;>simp [y6]
theorem planG46 (op:Int) (cb t:Bool) (z:Int×Int×Int×Int×Int) (h1:cb=true→kc 46 op=some z) (h2:cb=false→kd 46 op=some z):plan46 (op,cb,t,())=some (planS 46 z.1 z.2.1 t,()):=by
 unfold plan46 planS
 cases cb
 ·simp only [Bool.false_eq_true,if_false,h2 rfl,Option.bind_some]
  by_cases y6:z.2.1=6<;>cases t<;>simp [y6]
 ·simp only [if_true,h1 rfl,Option.bind_some]
  by_cases y6:z.2.1=6<;>cases t<;>simp [y6]
theorem form_kind:∀ op:Fin 256,∀ cb:Bool,0≤(formS (op.val:Int) cb).1∧(formS (op.val:Int) cb).1<47∧0≤(formS (op.val:Int) cb).2.1∧(formS (op.val:Int) cb).2.1<8∧0≤(formS (op.val:Int) cb).2.2.1∧(formS (op.val:Int) cb).2.2.1<8∧((formS (op.val:Int) cb).1=9∨(formS (op.val:Int) cb).1=10→(formS (op.val:Int) cb).2.1<4):=by decide +kernel
@[reducible] def micro_Plan.as:List Shp:=[.k (.i .u8), .k .b, .k .b]
@[reducible] def micro_Plan.rs:List Shp:=[.im ⟨.i .i64,[.i .i64, .i .i64]⟩]
noncomputable def micro_Plan.F (x:Int×Bool×Bool×Unit):Option (List (Int×Int×Int)×Unit):=if 0≤x.1∧x.1≤255 then some (planS (formS x.1 x.2.1).1 (formS x.1 x.2.1).2.1 (formS x.1 x.2.1).2.2.1 x.2.2.1,()) else none
theorem kd_eq {op:Int} (h0:0≤op) (h1:op≤255):kd (decS op).1 op=some (decS op).2:=by
 unfold kd opcode_Decode.F tabF
 rw [if_pos ⟨h0,h1⟩]
 simp
theorem kc_eq {op:Int} (h0:0≤op) (h1:op≤255):kc (cbS op).1 op=some (cbS op).2:=by
 unfold kc opcode_DecodeCB.F tabF
 rw [if_pos ⟨h0,h1⟩]
 simp
theorem micro_Plan.ok:PureOK Tryz.prog 61 micro_Plan.as micro_Plan.rs micro_Plan.F:=by
 rintro ⟨op,cb,t,u⟩ y h
 unfold micro_Plan.F at h
 split at h
 ·rename_i hc
  simp only at hc h
  have hk:=form_kind ⟨op.toNat,by omega⟩ cb
  simp only [Int.toNat_of_nonneg hc.1] at hk
  obtain ⟨k0,k1,x0,x1,y0,y1,h9⟩:=hk
  have e1:cb=true→kc (formS op cb).1 op=some (formS op cb).2:=fun e=>by subst e;exact kc_eq hc.1 hc.2
  have e2:cb=false→kd (formS op cb).1 op=some (formS op cb).2:=fun e=>by subst e;exact kd_eq hc.1 hc.2
  generalize formS op cb=f at *
  obtain ⟨k,z⟩:=f
  simp only at k0 k1 x0 x1 y0 y1 h9 e1 e2 h
  obtain ⟨n,rfl,hn⟩:∃ n:Nat,k=(n:Int)∧n<47:=⟨k.toNat,by omega,by omega⟩

  by_cases k0:n=0
  ·subst k0
   exact plan0_ok (op,cb,t,()) y (by rw [planG0 op cb t z e1 e2];exact h)
  by_cases k1:n=1
  ·subst k1
   exact plan1_ok (op,cb,t,()) y (by rw [planG1 op cb t z e1 e2];exact h)
  by_cases k2:n=2
  ·subst k2
   exact plan2_ok (op,cb,t,()) y (by rw [planG2 op cb t z e1 e2];exact h)
  by_cases k3:n=3
  ·subst k3
   exact plan3_ok (op,cb,t,()) y (by rw [planG3 op cb t z e1 e2];exact h)
  by_cases k4:n=4
  ·subst k4
   exact plan4_ok (op,cb,t,()) y (by rw [planG4 op cb t z e1 e2];exact h)
  by_cases k5:n=5
  ·subst k5
   exact plan5_ok (op,cb,t,()) y (by rw [planG5 op cb t z e1 e2];exact h)
  by_cases k6:n=6
  ·subst k6
   exact plan6_ok (op,cb,t,()) y (by rw [planG6 op cb t z e1 e2];exact h)
  by_cases k7:n=7
  ·subst k7
   exact plan7_ok (op,cb,t,()) y (by rw [planG7 op cb t z e1 e2];exact h)
  by_cases k8:n=8
  ·subst k8
   exact plan8_ok (op,cb,t,()) y (by rw [planG8 op cb t z e1 e2];exact h)
  by_cases k9:n=9
  ·subst k9
   exact plan9_ok (op,cb,t,()) y (by rw [planG9 op cb t z e1 e2 x0 (h9 (by omega))];exact h)
  by_cases k10:n=10
  ·subst k10
   exact plan10_ok (op,cb,t,()) y (by rw [planG10 op cb t z e1 e2 x0 (h9 (by omega))];exact h)
  by_cases k11:n=11
  ·subst k11
   exact plan11_ok (op,cb,t,()) y (by rw [planG11 op cb t z e1 e2];exact h)
  by_cases k12:n=12
  ·subst k12
   exact plan12_ok (op,cb,t,()) y (by rw [planG12 op cb t z e1 e2];exact h)
  by_cases k13:n=13
  ·subst k13
   exact plan13_ok (op,cb,t,()) y (by rw [planG13 op cb t z e1 e2];exact h)
  by_cases k14:n=14
  ·subst k14
   exact plan14_ok (op,cb,t,()) y (by rw [planG14 op cb t z e1 e2];exact h)
  by_cases k15:n=15
  ·subst k15
   exact plan15_ok (op,cb,t,()) y (by rw [planG15 op cb t z e1 e2];exact h)
  by_cases k16:n=16
  ·subst k16
   exact plan16_ok (op,cb,t,()) y (by rw [planG16 op cb t z e1 e2];exact h)
  by_cases k17:n=17
  ·subst k17
   exact plan17_ok (op,cb,t,()) y (by rw [planG17 op cb t z e1 e2];exact h)
  by_cases k18:n=18
  ·subst k18
   exact plan18_ok (op,cb,t,()) y (by rw [planG18 op cb t z e1 e2];exact h)
  by_cases k19:n=19
  ·subst k19
   exact plan19_ok (op,cb,t,()) y (by rw [planG19 op cb t z e1 e2];exact h)
  by_cases k20:n=20
  ·subst k20
   exact plan20_ok (op,cb,t,()) y (by rw [planG20 op cb t z e1 e2];exact h)
  by_cases k21:n=21
  ·subst k21
   exact plan21_ok (op,cb,t,()) y (by rw [planG21 op cb t z e1 e2];exact h)
  by_cases k22:n=22
  ·subst k22
   exact plan22_ok (op,cb,t,()) y (by rw [planG22 op cb t z e1 e2];exact h)
  by_cases k23:n=23
  ·subst k23
   exact plan23_ok (op,cb,t,()) y (by rw [planG23 op cb t z e1 e2];exact h)
  by_cases k24:n=24
  ·subst k24
   exact plan24_ok (op,cb,t,()) y (by rw [planG24 op cb t z e1 e2];exact h)
  by_cases k25:n=25
  ·subst k25
   exact plan25_ok (op,cb,t,()) y (by rw [planG25 op cb t z e1 e2];exact h)
  by_cases k26:n=26
  ·subst k26
   exact plan26_ok (op,cb,t,()) y (by rw [planG26 op cb t z e1 e2];exact h)
  by_cases k27:n=27
  ·subst k27
   exact plan27_ok (op,cb,t,()) y (by rw [planG27 op cb t z e1 e2];exact h)
  by_cases k28:n=28
  ·subst k28
   exact plan28_ok (op,cb,t,()) y (by rw [planG28 op cb t z e1 e2];exact h)
  by_cases k29:n=29
  ·subst k29
   exact plan29_ok (op,cb,t,()) y (by rw [planG29 op cb t z e1 e2];exact h)
  by_cases k30:n=30
  ·subst k30
   exact plan30_ok (op,cb,t,()) y (by rw [planG30 op cb t z e1 e2];exact h)
  by_cases k31:n=31
  ·subst k31
   exact plan31_ok (op,cb,t,()) y (by rw [planG31 op cb t z e1 e2];exact h)
  by_cases k32:n=32
  ·subst k32
   exact plan32_ok (op,cb,t,()) y (by rw [planG32 op cb t z e1 e2];exact h)
  by_cases k33:n=33
  ·subst k33
   exact plan33_ok (op,cb,t,()) y (by rw [planG33 op cb t z e1 e2];exact h)
  by_cases k34:n=34
  ·subst k34
   exact plan34_ok (op,cb,t,()) y (by rw [planG34 op cb t z e1 e2];exact h)
  by_cases k35:n=35
  ·subst k35
   exact plan35_ok (op,cb,t,()) y (by rw [planG35 op cb t z e1 e2];exact h)
  by_cases k36:n=36
  ·subst k36
   exact plan36_ok (op,cb,t,()) y (by rw [planG36 op cb t z e1 e2];exact h)
  by_cases k37:n=37
  ·subst k37
   exact plan37_ok (op,cb,t,()) y (by rw [planG37 op cb t z e1 e2];exact h)
  by_cases k38:n=38
  ·subst k38
   exact plan38_ok (op,cb,t,()) y (by rw [planG38 op cb t z e1 e2];exact h)
  by_cases k39:n=39
  ·subst k39
   exact plan39_ok (op,cb,t,()) y (by rw [planG39 op cb t z e1 e2];exact h)
  by_cases k40:n=40
  ·subst k40
   exact plan40_ok (op,cb,t,()) y (by rw [planG40 op cb t z e1 e2];exact h)
  by_cases k41:n=41
  ·subst k41
   exact plan41_ok (op,cb,t,()) y (by rw [planG41 op cb t z e1 e2];exact h)
  by_cases k42:n=42
  ·subst k42
   exact plan42_ok (op,cb,t,()) y (by rw [planG42 op cb t z e1 e2];exact h)
  by_cases k43:n=43
  ·subst k43
   exact plan43_ok (op,cb,t,()) y (by rw [planG43 op cb t z e1 e2];exact h)
  by_cases k44:n=44
  ·subst k44
   exact plan44_ok (op,cb,t,()) y (by rw [planG44 op cb t z e1 e2];exact h)
  by_cases k45:n=45
  ·subst k45
   exact plan45_ok (op,cb,t,()) y (by rw [planG45 op cb t z e1 e2];exact h)
  by_cases k46:n=46
  ·subst k46
   exact plan46_ok (op,cb,t,()) y (by rw [planG46 op cb t z e1 e2];exact h)
  omega
 ·simp at h
noncomputable abbrev stP (x:((Bool×Unit×ByteArray×Int×Unit)×((Int×Int×Int×Int×Int×Int×Unit)×Unit)×((List (Int×Int×Int))×Unit))):=ref21_Plan.L0.step ref21_cycle.F x.1.1 x.1.2.2.1 x.1.2.2.2.1 x.2.1.1.1 x.2.1.1.2.1 x.2.1.1.2.2.1 x.2.1.1.2.2.2.1 x.2.1.1.2.2.2.2.1 x.2.1.1.2.2.2.2.2.1 x.2.2.1
noncomputable def planC (x:Int×Bool×Bool×Unit):Option (List (Int×Int×Int)×Unit):=ref21_Plan.G (tabF decS) (tabF cbS) ref21_Words.F (fun z=>iterN stP 8 z) x.1 x.2.1 x.2.2.1
def chkP (o:Option (List (Int×Int×Int)×Unit)) (p:List (Int×Int×Int)):Bool:=match o with
 | some x=>x.1==p
 | none=>false
theorem plan_fin:∀ op:Fin 256,∀ cb t:Bool,chkP (planC ((op.val:Int),cb,t,())) (planS (formS (op.val:Int) cb).1 (formS (op.val:Int) cb).2.1 (formS (op.val:Int) cb).2.2.1 t)=true:=by decide +kernel
end Go.Proofs.YtmhkjafcfpgikaaGreat.T
