/- Functions of the program as plain Lean, and what they come to. Conditions: none. -/
import Derived.Test.YtmhkjafcfpgikaaGreatEwD
import Derived.RangeFuncFrom
import Derived.RangeFuncBox
import Derived.RangeFuncLeaves
import Derived.RangeFuncBound
import Derived.Shelf.Abstract
import Derived.WalkKit
import Derived.OwnWalkIn
import Derived.TacticsInMore
import Derived.LoopNIn
import Derived.LoopIn
import Derived.Test.YtmhkjafcfpgikaaGreatProg
import Derived.Test.YtmhkjafcfpgikaaGreatPureV
namespace Go.Proofs.YtmhkjafcfpgikaaGreat.I
open Go Go.Proofs Go.RowKit Go.Shelf
attribute [local go_sem] Oper.semAt_some
set_option linter.unusedVariables false
set_option linter.unusedSimpArgs false
def bl (p:Int) (k:Nat):List Int:=((List.range k).filter (fun j=>p.toNat.testBit j)).map (fun j:Nat=>(j:Int))
theorem bl_yes {p:Int} {k:Nat} (h:p.toNat.testBit k=true):bl p (k+1)=bl p k++[(k:Int)]:=by
 simp [bl,List.range_succ,List.filter_append,h]
theorem bl_no {p:Int} {k:Nat} (h:p.toNat.testBit k=false):bl p (k+1)=bl p k:=by
 simp [bl,List.range_succ,List.filter_append,h]
theorem bl_pre (p:Int) {k:Nat} (h:k≤5):bl p k <+: bl p 5:=by
 have e:List.range k <+: List.range 5:=by
  rw [show List.range k=(List.range 5).take k by rw [List.take_range,Nat.min_eq_left h]]
  exact List.take_prefix _ _
 exact (e.filter _).map _
theorem bl_len (p:Int) {k:Nat} (h:k≤5):(bl p k).length≤k:=by
 unfold bl
 rw [List.length_map]
 exact Nat.le_trans (List.length_filter_le _ _) (by simp)
theorem bit_fin:∀ p:Fin 256,∀ k:Fin 5,bits BinOp.and IntKind.u8 ((p.val:Int) / 2 ^ k.val) 1=if (p.val:Int).toNat.testBit k.val then 1 else 0:=by decide +kernel
theorem bit_eq {p:Int} (hp:0≤p∧p≤255) {k:Nat} (hk:k<5):bits BinOp.and IntKind.u8 (p / 2 ^ k) 1=if p.toNat.testBit k then 1 else 0:=by
 obtain ⟨m,rfl⟩:=Int.eq_ofNat_of_zero_le hp.1
 exact bit_fin ⟨m,by omega⟩ ⟨k,hk⟩
theorem cell_of_box_l {W:World} {B:Nat} {v:Value} {t:TypeId} (h:W.heap[B]? = some (.cells #[v] t (0,0))):W.cell? ⟨B,0,none⟩=some v∧W.frozen? ⟨B,0,none⟩=false:=by
 constructor<;>simp [World.cell?,World.frozen?,h]
theorem cell_new_l (W:World) (v:Value) (t:TypeId):(W.alloc (.cells #[v] t)).cell? ⟨W.heap.size,0,none⟩=some v∧(W.alloc (.cells #[v] t)).frozen? ⟨W.heap.size,0,none⟩=false:=
 cell_of_box_l (World.alloc_heap_new W _)
theorem cell_alloc_l {W:World} {a:Addr} {v:Value} (o:Obj) (h:W.cell? a=some v):(W.alloc o).cell? a=some v:=cell_kept h (World.grownBy_alloc W o none) (fun r e=>by cases e)
theorem frozen_alloc_l {W:World} {a:Addr} {v:Value} (o:Obj) (h:W.cell? a=some v) (hf:W.frozen? a=false):(W.alloc o).frozen? a=false:=(frozen_kept h (World.grownBy_alloc W o none) (fun r e=>by cases e)).trans hf
theorem all_in (F:Fence) (n:Nat) (h5:F.fn 93) (hro:F.round=none) (p:Int) (w:World) :
  CallsIn F n Tryz.prog 93 #[.int .u8 p] w fun e w'=>e = .returned (.func (.func 164) #[] #[.pointer (some ⟨w.heap.size,0,none⟩)])∧w'=w.alloc (.cells #[.int .u8 p] 5):=by
 refine callsIn_of_wp Tryz.func93 rfl h5 ?_ hro
 simp only [Tryz.ntmps93,List.size_toArray,List.length_cons,List.length_nil,Nat.reduceAdd,Nat.reduceSub,Array.replicate_succ,Array.replicate_zero,List.push_toArray,List.append_toArray,List.nil_append,List.cons_append]
 gi_wp2
 go_ret
 exact ⟨rfl,rfl⟩
set_option maxRecDepth 100000 in
set_option maxHeartbeats 4000000 in
theorem bits_in (F:Fence) (n:Nat) (h6:F.fn 164) (hro:F.round=none) (hn:1≤n) (l Bn n₀:Nat) (hB:Bn<n₀) (p:Int) (hp:0≤p∧p≤255) (J Jx:List Int→World→Prop)
  (hY:∀ pre x W,J pre W→pre.length<5→YieldAt F (n - 1) Tryz.prog l #[.int .i64 x] W fun e W' =>
   (e = .returned (.bool true)∧J (pre++[x]) W'∧Below n₀ W W')∨(e = .returned (.bool false)∧Jx (pre++[x]) W'))
  (W:World) (hBn:W.cell? ⟨Bn,0,none⟩=some (.int .u8 p)) (h0:J [] W) :
  CallsIn F n Tryz.prog 164 #[.func (.yield l) #[] #[], .pointer (some ⟨Bn,0,none⟩)] W fun e W'=>(∃ v,e = .returned v) ∧
   ((∃ ys,ys=bl p 5∧J ys W')∨(∃ pre,pre <+: bl p 5∧Jx pre W')):=by
 refine callsIn_of_wp Tryz.func164 rfl h6 ?_ hro
 simp only [Tryz.ntmps164,List.size_toArray,List.length_cons,List.length_nil,Nat.reduceAdd,Nat.reduceSub,Array.replicate_succ,Array.replicate_zero,List.push_toArray,List.append_toArray,List.nil_append,List.cons_append]
 gi_wp2
 gi_loopw [4] (fun i wr=>∃ k:Nat,k≤5∧i = .int .i64 k∧J (bl p k) wr∧wr.cell? ⟨Bn,0,none⟩=some (.int .u8 p))
  (fun i _=>5 - (intOf i).toNat)
 case atStart=>exact ⟨0,Nat.zero_le _,rfl,h0,hBn⟩
 case round=>
  obtain ⟨k,hk,rfl,hJs,hc⟩:=hrel
  by_cases hlt:k<5
  ·by_cases hb:p.toNat.testBit k=true
   ·obtain ⟨fn,tmps,assign,body,hy,hR⟩:=hY _ (k:Int) wr hJs (by have:=bl_len p hk;omega)
    have hq:bits BinOp.and IntKind.u8 (p / 2 ^ k) 1=1:=by rw [bit_eq hp hlt,if_pos hb]
    gi_wp2
    ·refine hR.mono ?_
     rintro e W3 (⟨rfl,hJ3,hk3⟩ | ⟨rfl,hJx3⟩)
     ·have hc3:W3.cell? ⟨Bn,0,none⟩=some (.int .u8 p):=(hk3.cell (p:=⟨Bn,0,none⟩) hB).trans hc
      gi_wp2
      go_roundw
      case rel=>exact ⟨k+1,by omega,by simp,by rw [bl_yes hb];exact hJ3,hc3⟩
      case measure=>simp [intOf];omega
     ·gi_wp2
      refine bodyPost_ret (results_none rfl _ _ _) rfl ?_
      exact ⟨⟨_,rfl⟩, .inr ⟨_,by rw [← bl_yes hb];exact bl_pre p hlt,hJx3⟩⟩
   ·have hb':p.toNat.testBit k=false:=by simpa using hb
    have hq:bits BinOp.and IntKind.u8 (p / 2 ^ k) 1=0:=by rw [bit_eq hp hlt,if_neg hb]
    gi_wp2
    refine ⟨fun _ h=>(by cases h),?_⟩
    gi_wp2
    go_roundw
    case rel=>exact ⟨k+1,by omega,by simp,by rw [bl_no hb'];exact hJs,hc⟩
    case measure=>simp [intOf];omega
  ·obtain rfl:k=5:=by omega
   gi_wp2
   go_end0
   exact ⟨⟨_,rfl⟩, .inl ⟨_,rfl,hJs⟩⟩
theorem bits_stops (F:Fence) (n:Nat) (h6:F.fn 164) (hro:F.round=none) (hn:1≤n) (Bn n₀:Nat) (p:Int) (hp:0≤p∧p≤255) (w:World) (hBn:Bn<n₀) (hn₀:n₀≤w.heap.size)
  (hc:w.cell? ⟨Bn,0,none⟩=some (.int .u8 p)) :
  SeqStopsK F n Tryz.prog 164 #[.pointer (some ⟨Bn,0,none⟩)] (fun x:Int => #[Value.int .i64 x]) (Below n₀) (fun ys=>ys=bl p 5) (fun pre=>pre <+: bl p 5) 5 w:=fun l J Jx W hW _ _ hY h0=>
 bits_in F n h6 hro hn l Bn n₀ hBn p hp J Jx hY W ((hW.cell (p:=⟨Bn,0,none⟩) (Nat.lt_of_lt_of_le hBn hn₀)).trans hc) h0
def firstV (p:Int):Int×Bool:=match bl p 5 with
 | []=>(0,false)
 | x::_=>(x,true)
set_option maxRecDepth 100000 in
set_option maxHeartbeats 4000000 in
theorem First_in (F:Fence) (n:Nat) (h3:F.fn 59) (h5:F.fn 93) (h6:F.fn 164) (hro:F.round=none) (hn:3≤n) (p:Int) (hp:0≤p∧p≤255) (w:World) :
  CallsIn F n Tryz.prog 59 #[.int .u8 p] w fun e W'=>e = .returned (.tuple #[.int .i64 (firstV p).1, .bool (firstV p).2])∧Below w.heap.size w W':=by
 have h1:1≤n:=by omega
 refine callsIn_of_wp_marks Tryz.func59 rfl h3 ?_ hro
 simp only [Tryz.ntmps59,List.size_toArray,List.length_cons,List.length_nil,Nat.reduceAdd,Nat.reduceSub,Array.replicate_succ,Array.replicate_zero,List.push_toArray,List.append_toArray,List.nil_append,List.cons_append]
 gi_wp2_with (gi_at_call 93;refine (all_in F (n - 1) h5 hro _ _).mono ?_;rintro e w' ⟨rfl,rfl⟩)
 have c0:=cell_new_l w (.int .i64 0) 3
 have c1:=cell_new_l (w.alloc (.cells #[.int .i64 0] 3)) (.bool false) 4
 have c2:=cell_new_l ((w.alloc (.cells #[.int .i64 0] 3)).alloc (.cells #[.bool false] 4)) (.int .u8 p) 5
 simp only [World.size_alloc] at c1 c2
 have hB0:Below w.heap.size w (((w.alloc (.cells #[.int .i64 0] 3)).alloc (.cells #[.bool false] 4)).alloc (.cells #[.int .u8 p] 5)):=(((Below.refl _ w).alloc (Nat.le_refl _) _).alloc (by simp) _).alloc (by simp;omega) _
 refine wpIn_rangeFunc_ownF hro h1 (gf:=164) (lb := #[.pointer (some ⟨w.heap.size+1+1,0,none⟩)]) rfl h6 (enters_of Tryz.func164 (by kernel_rfl) rfl)
  (bits_stops F (n - 1) h6 hro (by omega) (w.heap.size+1+1) (w.heap.size+1+1+1) p hp _ (by omega) (by simp) c2.1) belowK_t (belowK_b (by simp)) (Below.refl _ _) (fun _=>rfl)
  (fun pre W=>(pre=[]∧W.cell? ⟨w.heap.size,0,none⟩=some (.int .i64 0)∧W.frozen? ⟨w.heap.size,0,none⟩=false∧W.cell? ⟨w.heap.size+1,0,none⟩=some (.bool false)∧W.frozen? ⟨w.heap.size+1,0,none⟩=false)∧Below w.heap.size w W)
  (fun c pre W=>(c = .ret∧∃ x,pre=[x]∧W.cell? ⟨w.heap.size,0,none⟩=some (.int .i64 x)∧W.cell? ⟨w.heap.size+1,0,none⟩=some (.bool true))∧Below w.heap.size w W)
  (OwnFrom.and (Own.from (fun s A B row hs hg hr=>⟨hs.1,cell_kept hs.2.1 hg hr,(frozen_kept hs.2.1 hg hr).trans hs.2.2.1,cell_kept hs.2.2.2.1 hg hr,(frozen_kept hs.2.2.2.1 hg hr).trans hs.2.2.2.2⟩) _) (ownFrom_below (Nat.le_refl _) (by simp;omega)))
  (fun c=>OwnFrom.and (Own.from (fun s A B row hs hg hr=>⟨hs.1,hs.2.choose,hs.2.choose_spec.1,cell_kept hs.2.choose_spec.2.1 hg hr,cell_kept hs.2.choose_spec.2.2 hg hr⟩) _) (ownFrom_below (Nat.le_refl _) (by simp;omega)))
  ⟨⟨rfl,cell_alloc_l _ (cell_alloc_l _ c0.1),frozen_alloc_l _ (cell_alloc_l _ c0.1) (frozen_alloc_l _ c0.1 c0.2),cell_alloc_l _ c1.1,frozen_alloc_l _ c1.1 c1.2⟩,hB0⟩
  (fun x=>{ tmps := #[.int .u8 p,undef, .pointer (some ⟨w.heap.size,0,none⟩), .pointer (some ⟨w.heap.size+1,0,none⟩), .int .i64 x, .int .u8 p, .func (.func 164) #[] #[.pointer (some ⟨w.heap.size+1+1,0,none⟩)], .int .i64 x,undef],defers:=[] }) ?assign ?body ?done ?stop
 case assign=>
  intro l x W K hK
  gi_wp2
  exact hK
 case body=>
  rintro l pre x W ⟨⟨rfl,hc0,hf0,hc1,hf1⟩,hB⟩ _
  have hf1':(W.setCell ⟨w.heap.size,0,none⟩ (.int .i64 x)).frozen? ⟨w.heap.size+1,0,none⟩=false:=by rw [World.frozen?_setCell];exact hf1
  have hc1':(W.setCell ⟨w.heap.size,0,none⟩ (.int .i64 x)).cell? ⟨w.heap.size+1,0,none⟩=some (.bool false):=(World.cell?_of_block (Below.heap_setCell W ⟨w.heap.size,0,none⟩ _ (w.heap.size+1) (by simp))).trans hc1
  have hc0':(W.setCell ⟨w.heap.size,0,none⟩ (.int .i64 x)).cell? ⟨w.heap.size,0,none⟩=some (.int .i64 x):=World.cell?_setCell_same' _ _ _ (by rw [hc0];rfl)
  gi_wp2
  refine ⟨(KeepsOthers.setCell _ _ _).trans (KeepsOthers.setCell _ _ _),⟨rfl,x,rfl,?_,?_⟩,(hB.setCell (p:=⟨w.heap.size,0,none⟩) (Nat.le_refl _) _).setCell (p:=⟨w.heap.size+1,0,none⟩) (by simp) _⟩
  ·exact (World.cell?_of_block (Below.heap_setCell _ ⟨w.heap.size+1,0,none⟩ _ w.heap.size (by simp))).trans hc0'
  ·exact World.cell?_setCell_same' _ _ _ (by rw [hc1'];rfl)
 case done=>
  rintro D ys W hD rfl ⟨⟨he,hc0,hf0,hc1,hf1⟩,hB⟩ hK
  have hf1':(W.setCell ⟨w.heap.size,0,none⟩ (.int .i64 0)).frozen? ⟨w.heap.size+1,0,none⟩=false:=by rw [World.frozen?_setCell];exact hf1
  have hc1':(W.setCell ⟨w.heap.size,0,none⟩ (.int .i64 0)).cell? ⟨w.heap.size+1,0,none⟩=some (.bool false):=(World.cell?_of_block (Below.heap_setCell W ⟨w.heap.size,0,none⟩ _ (w.heap.size+1) (by simp))).trans hc1
  have hc0':(W.setCell ⟨w.heap.size,0,none⟩ (.int .i64 0)).cell? ⟨w.heap.size,0,none⟩=some (.int .i64 0):=World.cell?_setCell_same' _ _ _ (by rw [hc0];rfl)
  gi_wp2
  have hK':=((KeepsOthers.setCell W ⟨w.heap.size,0,none⟩ (.int .i64 0)).trans (KeepsOthers.setCell _ ⟨w.heap.size+1,0,none⟩ (.bool false))).same D _ hK rfl
  have hB':=(hB.setCell (p:=⟨w.heap.size,0,none⟩) (Nat.le_refl _) (.int .i64 0)).setCell (p:=⟨w.heap.size+1,0,none⟩) (by simp) (.bool false)
  refine ⟨by simp, .inl ⟨_,_,rfl,run_takeDeferred hK',?_⟩⟩
  have hc5:=cell_kept ((World.cell?_of_block (Below.heap_setCell (W.setCell ⟨w.heap.size,0,none⟩ (.int .i64 0)) ⟨w.heap.size+1,0,none⟩ (.bool false) w.heap.size (by simp))).trans hc0') (grownBy_putObj' _ D (.deferred none)) (fun r e=>by cases e;exact ⟨_,hK',rfl⟩)
  have hc6:=cell_kept (World.cell?_setCell_same' (W.setCell ⟨w.heap.size,0,none⟩ (.int .i64 0)) ⟨w.heap.size+1,0,none⟩ (.bool false) (by rw [hc1'];rfl)) (grownBy_putObj' _ D (.deferred none)) (fun r e=>by cases e;exact ⟨_,hK',rfl⟩)
  have hv:firstV p=(0,false):=by
   unfold firstV
   rw [he]
  refine ⟨.tuple #[.int .i64 0, .bool false],?_,by rw [hv],hB'.trans (belowK_b (w:=w) (Nat.le_refl _) _ D _ _ (by simp at hD;omega) hK' rfl rfl)⟩
  simp [results,Tryz.f59,go_sem,hc5,hc6]
 case stop=>
  rintro D c pre W hD hpre ⟨⟨rfl,x,rfl,hc0,hc1⟩,hB⟩ hK
  gi_wp2
  refine ⟨by simp, .inl ⟨_,_,rfl,run_takeDeferred hK,?_⟩⟩
  have hc5:=cell_kept hc0 (grownBy_putObj' _ D (.deferred none)) (fun r e=>by cases e;exact ⟨_,hK,rfl⟩)
  have hc6:=cell_kept hc1 (grownBy_putObj' _ D (.deferred none)) (fun r e=>by cases e;exact ⟨_,hK,rfl⟩)
  have hv:firstV p=(x,true):=by
   obtain ⟨t,ht⟩:=hpre
   unfold firstV
   rw [← ht];rfl
  refine ⟨.tuple #[.int .i64 x, .bool true],?_,by rw [hv],hB.trans (belowK_b (w:=w) (Nat.le_refl _) W D _ _ (by simp at hD;omega) hK rfl rfl)⟩
  simp [results,Tryz.f59,go_sem,hc5,hc6]
theorem First_calls {p:Int} (hp:0≤p∧p≤255) (w:World):Calls Tryz.prog 59 #[.int .u8 p] w fun e W'=>e = .returned (.tuple #[.int .i64 (firstV p).1, .bool (firstV p).2])∧Below w.heap.size w W' :=
 callsIn_wide.1 (First_in Fence.wide 3 trivial trivial trivial rfl (Nat.le_refl _) p hp w)
end Go.Proofs.YtmhkjafcfpgikaaGreat.I
