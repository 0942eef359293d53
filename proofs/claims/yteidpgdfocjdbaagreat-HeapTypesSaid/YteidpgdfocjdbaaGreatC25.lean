/- Joined contracts. No conditions. -/
import Derived.Test.YteidpgdfocjdbaaGreatProg
import Derived.RangeFuncNested
import Derived.RangeFuncBound
import Derived.RangeFuncCalls
import Derived.RangeFuncLeaves
import Derived.RangeFuncBox
import Derived.Shelf.Abstract
import Derived.Shelf.RegionOpen
import Derived.WalkKit
import Derived.OwnWalkIn
import Derived.TacticsInMore
import Derived.LoopNIn
import Derived.LoopIn
import Derived.Test.YteidpgdfocjdbaaGreatCS
import Derived.Test.YteidpgdfocjdbaaGreatC19
import Derived.Test.YteidpgdfocjdbaaGreatC24
set_option maxHeartbeats 8000000
set_option maxRecDepth 100000
namespace Go.Proofs.YteidpgdfocjdbaaGreat
open Go Go.RowKit Go.Stg
open Ty (FieldsAt fields_get fcells fcells_length fields_cells fcells_oneCell fcells_snoc row_fields)
def CompPost (w:World) (size:Int) (e:Ending) (w':World):Prop:=
 ∃u,e=.returned (.tuple #[u,.int .i64 0])∧w'.ownsRow w.heap.size 56 2 u (gap 0 size).length (fcells (gap 0 size))∧Mod [] w w'
theorem compl_nil (size:Int) (h0:0≤size) (h1:size≤1048576) (w:World):Calls Tryz.prog 105 #[.slice none 0 0,.int .i64 size] w (CompPost w size):=by
 obtain⟨i0,hi0,hz0,hz1,hz2⟩:=info_parts info_ext;have hnil:∀w:World,FieldsAt w (.slice none 0 0) []:=fun _=>.inl ⟨rfl,rfl⟩
 have hnH:=Lib.hid hnil;clear hnil;go_enter Tryz.func105,Tryz.ntmps105;go_wp2_with fail;refine(valid_yes (hnH.out w) VS.nil).mono ?_;rintro e w1 ⟨rfl,hm1⟩;have hm1H:=Lib.hid hm1;clear hm1;go_wp2_with fail;refine(xclone_ok _ [] (by simp) w1 (hnH.out w1)).mono ?_;rintro e w2 ⟨u,rfl,hr2,hm2⟩;obtain⟨ua,ul,uc,rfl⟩:=row_form hr2;have hm3:=(Mod.refl [] w2).alloc (.cells #[.int .i64 size,.int .i64 0] 56);have hr3:(w2.alloc (.cells #[.int .i64 size,.int .i64 0] 56)).ownsRow w1.heap.size 56 2 (.slice ua ul uc) 0 []:=row_mod hr2 hm3 (by simp);have hn3:=Ty.cells2 w2 (.int .i64 size) (.int .i64 0) 56;have hr3H:=Lib.hid hr3;have hn3H:=Lib.hid hn3;have hm2H:=Lib.hid (hm1H.out.nil_then hm2);have hm3H:=Lib.hid hm3;have hs1:=hm1H.out.size;have hs2:=hm2.size;clear hr3 hn3 hm3 hr2 hm2;go_wp2_with (at_builtin;refine wpList_append_row _ rfl _ _ 200 rfl 56 i0 (.agg #[.int .i64 0,.int .i64 0]) 2 16 Tryz.underlying200 hi0 hz0 hz1 hz2 rfl (by decide) (.slice ua ul uc) 0 [] rfl (row_base hr3H.out (Nat.zero_le _)) ⟨w2.heap.size,0,none⟩ 1 1 [.int .i64 size,.int .i64 0] rfl rfl hn3H.out (by simp[Value.oneCell']) (by unfold maxLen;omega) (by omega) ?_;intro v4 w4 hown4 hgrow4 hfr4;obtain⟨g4,c4,rfl,_,_⟩:=row_pos hown4 (by omega);have hown4H:=Lib.hid hown4;have hm4H:=Lib.hid ((hm2H.out.nil_then hm3H.out).grown hgrow4 (fun k hk=>.inr (by have:=(hr3H.out.lt k hk).1;omega)));clear hown4 hgrow4 hfr4);have hc0:=hown4H.out.cellAt 0 (by omega);have hc1:=hown4H.out.cellAt 1 (by omega);have hc0H:Hid (w4.cell? ⟨g4,0,none⟩=some (.int .i64 size)):=Lib.hid (by rw[hc0];rfl);have hc1H:Hid (w4.cell? ⟨g4,1,none⟩=some (.int .i64 0)):=Lib.hid (by rw[hc1];rfl);have hg4:g4<w4.heap.size:=(hown4H.out.lt g4 rfl).2;clear hc0 hc1 hr3H hn3H hm3H;go_loopw [44,6,7] (fun i ov av wr=>(i=.int .i64 0∧ov=.slice none 0 0∧av=.int .i64 0∧Mod [] w4 wr)∨(i=.int .i64 1∧av=.int .i64 size∧Mod [] w wr∧wr.ownsRow w.heap.size 56 2 ov (gap 0 size).length (fcells (gap 0 size)))) (fun i _ _ _=>(1-intOf i).toNat)
 case atStart=>exact .inl ⟨rfl,rfl,rfl,Mod.refl _ _⟩
 case round=>
  rcases hrel with⟨rfl,rfl,rfl,hm⟩|⟨rfl,rfl,hm,hr⟩
  ·have d0:=(Ty.cell_mod hm hg4 (by simp)).trans hc0H.out;have d1:=(Ty.cell_mod hm hg4 (by simp)).trans hc1H.out;have hmw:=Lib.hid (hm4H.out.nil_then hm);have hwr:=hmw.out.size;clear hm;by_cases hp:0<size
   ·have hn6:=Ty.cells2 (wr.alloc (.cells #[.int .i64 size,.int .i64 0] 56)) (.int .i64 0) (.int .i64 size) 56;rw[show(wr.alloc (.cells #[.int .i64 size,.int .i64 0] 56)).heap.size=wr.heap.size+1 by simp]at hn6;have hn6H:=Lib.hid hn6;have hbx6:=Lib.hid (at_alloc_old (o:=.cells #[.int .i64 0,.int .i64 size] 56) (at_alloc wr (.cells #[.int .i64 size,.int .i64 0] 56)));have hm6:=Lib.hid ((hmw.out.alloc (.cells #[.int .i64 size,.int .i64 0] 56)).alloc (.cells #[.int .i64 0,.int .i64 size] 56));have hgap:Hid (gap 0 size=[(0,size)]):=Lib.hid (by unfold gap;rw[if_pos hp,Int.sub_zero]);clear hn6;go_wp2_with (at_builtin;refine wpList_append_row _ rfl _ _ 200 rfl 56 i0 (.agg #[.int .i64 0,.int .i64 0]) 2 16 Tryz.underlying200 hi0 hz0 hz1 hz2 rfl (by decide) (.slice none 0 0) 0 [] rfl (World.ownsRow_nil _ _ _ _) ⟨wr.heap.size+1,0,none⟩ 1 1 [.int .i64 0,.int .i64 size] rfl rfl hn6H.out (by simp[Value.oneCell']) (by unfold maxLen;omega) (by omega) ?_;intro v7 w7 hown7 hgrow7 hfr7;have hbx7:=(hgrow7.block wr.heap.size (by simp;omega) (by simp[Value.ownBlock])).trans hbx6.out;have kb:=cells_of hbx7;have hown7H:=Lib.hid hown7;have hm7H:=Lib.hid (hm6.out.grown hgrow7 (fun k hk=>by simp[Value.ownBlock]at hk));have hfr7H:=Lib.hid hfr7;clear hown7 hgrow7 hfr7 hbx7);refine(end_any size 0 (by omega) (by omega) _).mono ?_;rw[Int.add_zero];rintro e w8 ⟨rfl,hm8⟩;have hm8H:=Lib.hid (hm7H.out.nil_then hm8);have hr8:Hid (w8.ownsRow w.heap.size 56 2 v7 (gap 0 size).length (fcells (gap 0 size))):=Lib.hid (by
     rw[hgap.out];refine row_all (row_mod hown7H.out hm8 (by simp)) fun x hx=> ?_
     rcases hfr7H.out x hx with h|h
     ·simp[Value.ownBlock]at h
     ·simp at h;omega)
    clear hm8 kb;go_wp2_with fail;go_roundw
    case rel=>exact .inr ⟨rfl,rfl,hm8H.out,hr8.out⟩
    case measure=>simp[intOf]
   ·have hgap:Hid (gap 0 size=[]):=Lib.hid (by unfold gap;rw[if_neg hp]);go_wp2_with fail;refine(end_any size 0 (by omega) (by omega) _).mono ?_;rw[Int.add_zero];rintro e w8 ⟨rfl,hm8⟩;have hm8H:=Lib.hid ((hmw.out.alloc (.cells #[.int .i64 size,.int .i64 0] 56)).nil_then hm8);clear hm8;go_wp2_with fail;go_roundw
    case rel=>exact .inr ⟨rfl,rfl,hm8H.out,by rw[hgap.out];exact World.ownsRow_nil _ _ _ _⟩
    case measure=>simp[intOf]
  ·have hmH:=Lib.hid hm;have hrH:=Lib.hid hr;clear hm hr;go_wp2_with fail;exact bodyPost_ret (v:=.tuple #[_,.int .i64 0]) (by simp[results,Tryz.results105,go_sem]) rfl ⟨_,rfl,hrH.out,hmH.out⟩
attribute [local go_sem] Oper.semAt_some
theorem szstep_ok (s:Int) (w:World):Calls Tryz.prog 140 #[.int .i64 s] w fun e w'=>e=.returned (.int .i64 (sizeStep s))∧w'=w:=by
 go_enter Tryz.func140,Tryz.ntmps140;by_cases h1:s<128
 ·go_wp2;go_ret;exact⟨by rw[sizeStep,if_pos (by omega)];rfl,rfl⟩
 ·by_cases h2:s<2048
  ·go_wp2;go_ret;exact⟨by rw[sizeStep,if_neg (by omega),if_pos (by omega)];rfl,rfl⟩
  ·go_wp2;go_ret;exact⟨by rw[sizeStep,if_neg (by omega),if_neg (by omega)];rfl,rfl⟩
theorem sizes_made (w:World):Calls Tryz.prog 117 #[] w fun e w'=>e=.returned (.func (.func 139) #[] #[])∧w'=w:=by
 go_enter Tryz.func117,Tryz.ntmps117;go_wp2;go_ret;exact⟨rfl,rfl⟩
def sizesP (k:Nat):List (Int×Int):=(List.range k).map fun(i:Nat)=>((i:Int),sizeAt i)
theorem sizesP_snoc (k:Nat):sizesP (k+1)=sizesP k++[((k:Int),sizeAt k)]:=by simp[sizesP,List.range_succ]
theorem sizesP_len (k:Nat):(sizesP k).length=k:=by simp[sizesP]
theorem sizesP_prefix {k m:Nat} (h:k≤m):sizesP k<+:sizesP m:=by
 induction m with
 |zero=>rw[show k=0 by omega];exact List.prefix_refl _
 |succ m ih=>
  by_cases hk:k=m+1
  ·subst hk;exact List.prefix_refl _
  ·rw[sizesP_snoc];exact(ih (by omega)).trans (List.prefix_append _ _)
def sizeX (k:Nat):Int:=if k<43 then sizeAt k else 67584
theorem sizesC_in (n':Nat) (hn':1≤n') (l:Nat) (J Jx:List (Int×Int)→World→Prop)
  (hY:∀pre p W,J pre W→pre.length<43→YieldAt Fence.wide (n'-1) Tryz.prog l #[.int .i64 p.1,.int .i64 p.2] W fun e W'=>
   (e=.returned (.bool true)∧J (pre++[p]) W'∧True)∨(e=.returned (.bool false)∧Jx (pre++[p]) W'))
  (W:World) (h0:J [] W):
  CallsIn Fence.wide n' Tryz.prog 139 #[.func (.yield l) #[] #[]] W fun e W'=>(∃v,e=.returned v)∧((∃ys,ys=sizesP 43∧J ys W')∨(∃pre,pre<+:sizesP 43∧Jx pre W')):=by
 have hYH:=Lib.hid hY;have h0H:=Lib.hid h0;clear hY h0;refine callsIn_of_wp Tryz.func139 rfl trivial ?_ rfl;simp only[Tryz.ntmps139,List.size_toArray,List.length_cons,List.length_nil,Nat.reduceAdd,Nat.reduceSub,Array.replicate_succ,Array.replicate_zero,List.push_toArray,List.append_toArray,List.nil_append,List.cons_append];gi_wp2_with fail
 gi_loopw [2,3] (fun ci si wr=>∃k:Nat,k≤43∧ci=.int .i64 k∧si=.int .i64 (sizeX k)∧J (sizesP k) wr) (fun ci _ _=>43-(intOf ci).toNat)
 case atStart=>exact⟨0,by omega,rfl,rfl,h0H.out⟩
 case round=>
  obtain⟨k,hk,rfl,rfl,hJs⟩:=hrel;clear h0H;by_cases hlt:k<43
  ·have hs:=size_at hlt;have hx:sizeX k=sizeAt k:=if_pos hlt;rw[hx];have hle:decide (sizeAt k≤65536)=true:=by rw[decide_eq_true_eq];omega
   obtain⟨fn,tmps,assign,body,hy,hR⟩:=hYH.out _ ((k:Int),sizeAt k) wr hJs (by rw[sizesP_len];exact hlt);rw[←sizesP_snoc]at hR;have hxn:sizeAt k+sizeStep (sizeAt k)=sizeX (k+1):=by
    unfold sizeX;by_cases h:k+1<43
    ·rw[if_pos h,size_next h]
    ·obtain rfl:k=42:=by omega
     rw[if_neg h];decide
   have hxH:=Lib.hid hxn;clear hJs hx hxn
   gi_wp2_with fail
   refine hR.mono ?_;rintro e W3 (⟨rfl,hJ3, -⟩|⟨rfl,hJx3⟩)
   ·have hJ3:=Lib.hid hJ3;clear hR hy
    gi_wp2_with fail
    refine⟨trivial,(callsIn_wide.2 (szstep_ok (sizeAt k) W3)).mono ?_⟩;rintro e W4 ⟨rfl,rfl⟩;have hst:=sizeStep_pos hlt
    gi_wp2_with fail
    go_roundw
    case rel=>exact⟨k+1,by omega,by go_num,by rw[hxH.out],hJ3.out⟩
    case measure=>simp[intOf];omega
   ·have hJx3:=Lib.hid hJx3;clear hR hy
    gi_wp2_with fail
    refine bodyPost_ret (results_none rfl _ _ _) rfl ?_;exact⟨⟨_,rfl⟩,.inr ⟨_,sizesP_prefix (by omega),hJx3.out⟩⟩
  ·obtain rfl:k=43:=by omega
   have hJs:=Lib.hid hJs;have hx:sizeX 43=67584:=by decide
   rw[hx]
   gi_wp2_with fail
   go_end0;exact⟨⟨_,rfl⟩,.inl ⟨_,rfl,hJs.out⟩⟩
theorem sizes_stops (n':Nat) (hn':1≤n') (w:World):SeqStopsK Fence.wide n' Tryz.prog 139 #[] (fun p:Int×Int=>#[Value.int .i64 p.1,.int .i64 p.2]) (fun _ _=>True) (fun ys=>ys=sizesP 43) (fun pre=>pre<+:sizesP 43) 43 w:=
 fun l J Jx W _ _ _ hY h0=>sizesC_in n' hn' l J Jx hY W h0
def findV (n:Int):Value:=.tuple #[.int .i64 (if roundE n=0 then(classN n:Int)else 0),.int .i64 (roundN n),.int .i64 (roundE n)]
theorem sizesP_last {pre:List (Int×Int)} {x:Int×Int} (h:pre++[x]<+:sizesP 43):∃k,k<43∧pre=sizesP k∧x=((k:Int),sizeAt k):=by
 have hl:=h.length_le;rw[sizesP_len,List.length_append,List.length_singleton]at hl;have hk:pre.length<43:=by omega
 have e:pre++[x]=sizesP (pre.length+1):=by
  have h1:=List.prefix_iff_eq_take.1 h;have h2:=List.prefix_iff_eq_take.1 (sizesP_prefix (show pre.length+1≤43 by omega));rw[sizesP_len]at h2;rw[h1,h2];simp
 rw[sizesP_snoc]at e;obtain⟨e1,e2⟩:=List.append_inj e (by rw[sizesP_len]);exact⟨_,hk,e1,by simpa using e2⟩
def AllLess (n:Int) (l:List (Int×Int)):Prop:=∀p∈l,p.2<n
theorem sizesP_mem {k m:Nat} (h:m<k):((m:Int),sizeAt m)∈sizesP k:=by
 unfold sizesP;exact List.mem_map.2 ⟨m,List.mem_range.2 h,rfl⟩
theorem szfind_ok (n:Int) (w:World):Calls Tryz.prog 79 #[.int .i64 n] w fun e w'=>e=.returned (findV n)∧Mod [] w w':=by
 refine(callsIn_wide (n:=5)).1 ?_;refine callsIn_of_wp_marks Tryz.func79 rfl trivial ?_ rfl;simp only[Tryz.ntmps79,List.size_toArray,List.length_cons,List.length_nil,Nat.reduceAdd,Nat.reduceSub,Array.replicate_succ,Array.replicate_zero,List.push_toArray,List.append_toArray,List.nil_append,List.cons_append];have hm0:Mod [] w ((((w.alloc (.cells #[.int .i64 n] 3)).alloc (.cells #[.int .i64 0] 3)).alloc (.cells #[.int .i64 0] 3)).alloc (.cells #[.int .i64 0] 28)):=((((Mod.refl [] w).alloc _).alloc _).alloc _).alloc _;have z1:(w.alloc (.cells #[.int .i64 n] 3)).heap.size=w.heap.size+1:=by simp
 have z2:((w.alloc (.cells #[.int .i64 n] 3)).alloc (.cells #[.int .i64 0] 3)).heap.size=w.heap.size+1+1:=by simp
 have z3:(((w.alloc (.cells #[.int .i64 n] 3)).alloc (.cells #[.int .i64 0] 3)).alloc (.cells #[.int .i64 0] 3)).heap.size=w.heap.size+1+1+1:=by simp
 have z4:((((w.alloc (.cells #[.int .i64 n] 3)).alloc (.cells #[.int .i64 0] 3)).alloc (.cells #[.int .i64 0] 3)).alloc (.cells #[.int .i64 0] 28)).heap.size=w.heap.size+4:=by simp
 have b0:Boxed ((((w.alloc (.cells #[.int .i64 n] 3)).alloc (.cells #[.int .i64 0] 3)).alloc (.cells #[.int .i64 0] 3)).alloc (.cells #[.int .i64 0] 28)) w.heap.size 3 (.int .i64 n):=(((Boxed.new w 3 (.int .i64 n)).alloc _).alloc _).alloc _;have b1:=((Boxed.new (w.alloc (.cells #[.int .i64 n] 3)) 3 (.int .i64 0)).alloc (.cells #[.int .i64 0] 3)).alloc (.cells #[.int .i64 0] 28);have b2:=(Boxed.new ((w.alloc (.cells #[.int .i64 n] 3)).alloc (.cells #[.int .i64 0] 3)) 3 (.int .i64 0)).alloc (.cells #[.int .i64 0] 28);have b3:=Boxed.new (((w.alloc (.cells #[.int .i64 n] 3)).alloc (.cells #[.int .i64 0] 3)).alloc (.cells #[.int .i64 0] 3)) 28 (.int .i64 0);rw[z1]at b1;rw[z2]at b2;rw[z3]at b3;have b0H:=Lib.hid b0;have b1H:=Lib.hid b1;have b2H:=Lib.hid b2;have b3H:=Lib.hid b3;have hm0H:=Lib.hid hm0;have z4H:=Lib.hid z4;clear b0 b1 b2 b3 hm0 z1 z2 z3 z4;by_cases h1:n<1
 ·gi_wp2_with fail
  have hv:findV n=.tuple #[.int .i64 0,.int .i64 0,.int .i64 1]:=by unfold findV roundE roundN;simp[h1]
  rw[hv];refine⟨_,?_,rfl,((((Mod.refl [] w).alloc _).alloc _).alloc _).alloc _⟩;simp[results,Tryz.results79,asAddr,go_sem]
 ·have c0:=b0H.out.cell
  gi_wp2_with fail
  refine⟨trivial,(callsIn_wide.2 (sizes_made _)).mono ?_⟩;rintro e w4 ⟨rfl,rfl⟩;gi_wp2_with fail;generalize((((w.alloc (.cells #[.int .i64 n] 3)).alloc (.cells #[.int .i64 0] 3)).alloc (.cells #[.int .i64 0] 3)).alloc (.cells #[.int .i64 0] 28))=W0 at*;have hz:=z4H.out;generalize hB:w.heap.size=B at*;have hBl:=hm0H.out.below;rw[hB]at hBl;refine wpIn_rangeFunc_ownH rfl (by omega) (gf:=139) (lb:=#[]) rfl trivial (enters_of Tryz.func139 (by kernel_rfl) rfl) (sizes_stops 4 (by omega) W0) (fun _ _=>trivial) (fun _ _ _ _ _ _ _ _=>trivial) (RowKit.Below.refl _ _) (fun _=>rfl)
   (fun(pre:List (Int×Int)) W=>(AllLess n pre∧Boxed W B 3 (.int .i64 n))∧(Boxed W (B+1) 3 (.int .i64 0)∧(Boxed W (B+1+1) 3 (.int .i64 0)∧(Boxed W (B+1+1+1) 28 (.int .i64 0)∧RowKit.Below B w W))))
   (fun c (pre:List (Int×Int)) W=>(c=.ret∧∃a x,pre=a++[x]∧AllLess n a∧n≤x.2∧Boxed W (B+1) 3 (.int .i64 x.1)∧Boxed W (B+1+1) 3 (.int .i64 x.2)∧Boxed W (B+1+1+1) 28 (.int .i64 0))∧RowKit.Below B w W)
   (OwnFrom.and (OwnFrom.and (ownFrom_pure _ _) (Own.from (boxed_own B 3 (fun(_:List (Int×Int))=>.int .i64 n)) _)) (OwnFrom.and (Own.from (boxed_own (B+1) 3 (fun(_:List (Int×Int))=>.int .i64 0)) _) (OwnFrom.and (Own.from (boxed_own (B+1+1) 3 (fun(_:List (Int×Int))=>.int .i64 0)) _) (OwnFrom.and (Own.from (boxed_own (B+1+1+1) 28 (fun(_:List (Int×Int))=>.int .i64 0)) _) (ownFrom_below (by omega) (by omega))))))
   ?hix ⟨⟨fun _ h=>(by cases h),b0H.out⟩,b1H.out,b2H.out,b3H.out,hBl⟩
   (fun(x:Int×Int) a' _=>a'={tmps:=#[.int .i64 n,.pointer (some ⟨B,0,none⟩),.pointer (some ⟨B+1,0,none⟩),.pointer (some ⟨B+1+1,0,none⟩),.pointer (some ⟨B+1+1+1,0,none⟩),.int .i64 x.1,.int .i64 x.2,.int .i64 n,.bool false,.func (.func 139) #[] #[],.int .i64 x.1,.int .i64 x.2,undef,undef,undef,undef,undef],defers:=[]}) (fun _ _=>ownFrom_pure _ _) ?assign ?body ?done ?stop
  case hix=>
   rintro c pre X Y row ⟨⟨rfl,a,x,h2,h3,h4,k1,k2,k3⟩,hb⟩ hg hr;exact⟨⟨rfl,a,x,h2,h3,h4,Own.from (boxed_own (B+1) 3 (fun(_:Unit)=>.int .i64 x.1)) _ () X Y row k1 hg hr,Own.from (boxed_own (B+1+1) 3 (fun(_:Unit)=>.int .i64 x.2)) _ () X Y row k2 hg hr,Own.from (boxed_own (B+1+1+1) 28 (fun(_:Unit)=>.int .i64 0)) _ () X Y row k3 hg hr⟩,ownFrom_below (w₀:=w) (n₀:=B) (by omega) (by omega) () X Y row hb hg hr⟩
  case assign=>
   rintro l pre ⟨xc,xs⟩ W K hI hK;have hIH:=Lib.hid hI;have hKH:=Lib.hid hK;clear hI hK
   gi_wp2_with fail
   exact hKH.out _ _ (KeepsFrom.refl _ _) trivial hIH.out rfl
  case body=>
   rintro l pre ⟨xc,xs⟩ a' W hl-⟨⟨hp,k0⟩,k1,k2,k3,hb⟩ rfl hlen;have c0:=k0.cell;have f1:=k1.frozen;have f2:=k2.frozen;have f3:=k3.frozen;have d1:=k1.cell;have d2:=k2.cell;have d3:=k3.cell;by_cases hc:n≤xs
   ·have q1:=((k1.set (.int .i64 xc)).other (B':=B+1+1) (by omega) (.int .i64 xs)).other (B':=B+1+1+1) (by omega) (.int .i64 0);have q2:=((k2.other (B':=B+1) (by omega) (.int .i64 xc)).set (.int .i64 xs)).other (B':=B+1+1+1) (by omega) (.int .i64 0);have q3:=((k3.other (B':=B+1) (by omega) (.int .i64 xc)).other (B':=B+1+1) (by omega) (.int .i64 xs)).set (.int .i64 0);have hk:=((KeepsOthers.setCell W ⟨B+1,0,none⟩ (.int .i64 xc)).trans (KeepsOthers.setCell _ ⟨B+1+1,0,none⟩ (.int .i64 xs))).trans (KeepsOthers.setCell _ ⟨B+1+1+1,0,none⟩ (.int .i64 0));have hb2:=((hb.setCell (p:=⟨B+1,0,none⟩) (by show B≤B+1;omega) (.int .i64 xc)).setCell (p:=⟨B+1+1,0,none⟩) (by show B≤B+1+1;omega) (.int .i64 xs)).setCell (p:=⟨B+1+1+1,0,none⟩) (by show B≤B+1+1+1;omega) (.int .i64 0);have q1H:=Lib.hid q1;have q2H:=Lib.hid q2;have q3H:=Lib.hid q3;have hkH:=Lib.hid hk;have hb2H:=Lib.hid hb2;have hpH:=Lib.hid hp;clear q1 q2 q3 hk hb2 hp k0 k1 k2 k3 hb
    gi_wp2_with fail
    exact⟨hkH.out.from _,⟨rfl,pre,(xc,xs),rfl,hpH.out,hc,q1H.out,q2H.out,q3H.out⟩,hb2H.out⟩
   ·have hI:=Lib.hid (⟨⟨fun p hp'=>by rcases List.mem_append.1 hp' with h|h;exact hp p h;obtain rfl:=List.mem_singleton.1 h;omega,k0⟩,k1,k2,k3,hb⟩:(AllLess n (pre++[(xc,xs)])∧Boxed W B 3 (.int .i64 n))∧(Boxed W (B+1) 3 (.int .i64 0)∧(Boxed W (B+1+1) 3 (.int .i64 0)∧(Boxed W (B+1+1+1) 28 (.int .i64 0)∧RowKit.Below B w W))));clear hp k0 k1 k2 k3 hb d1 d2 d3 f1 f2 f3
    gi_wp2_with fail
    exact⟨KeepsFrom.refl _ _,trivial,hI.out⟩
  case done=>
   rintro D ys W hD rfl ⟨⟨hp,k0⟩,k1,k2,k3,hb⟩ hK;have f1:=k1.frozen;have f2:=k2.frozen;have f3:=k3.frozen;have d1:=k1.cell;have d2:=k2.cell;have d3:=k3.cell;have hbig:65536<n:=by have:=hp _ (sizesP_mem (show 42<43 by omega));rw[size_last]at this;exact this
   have hv:findV n=.tuple #[.int .i64 0,.int .i64 0,.int .i64 4]:=by
    unfold findV roundE roundN;simp[show¬n<1 by omega,hbig]
   have q1:=((k1.set (.int .i64 0)).other (B':=B+1+1) (by omega) (.int .i64 0)).other (B':=B+1+1+1) (by omega) (.int .i64 4);have q2:=((k2.other (B':=B+1) (by omega) (.int .i64 0)).set (.int .i64 0)).other (B':=B+1+1+1) (by omega) (.int .i64 4);have q3:=((k3.other (B':=B+1) (by omega) (.int .i64 0)).other (B':=B+1+1) (by omega) (.int .i64 0)).set (.int .i64 4);have hb2:=((hb.setCell (p:=⟨B+1,0,none⟩) (by show B≤B+1;omega) (.int .i64 0)).setCell (p:=⟨B+1+1,0,none⟩) (by show B≤B+1+1;omega) (.int .i64 0)).setCell (p:=⟨B+1+1+1,0,none⟩) (by show B≤B+1+1+1;omega) (.int .i64 4);have hK2:=at_setCell_other (a:=⟨B+1+1+1,0,none⟩) (v:=.int .i64 4) (at_setCell_other (a:=⟨B+1+1,0,none⟩) (v:=.int .i64 0) (at_setCell_other (a:=⟨B+1,0,none⟩) (v:=.int .i64 0) hK (by show D≠B+1;omega)) (by show D≠B+1+1;omega)) (by show D≠B+1+1+1;omega);have q1H:=Lib.hid q1;have q2H:=Lib.hid q2;have q3H:=Lib.hid q3;have hb2H:=Lib.hid hb2;have hK2H:=Lib.hid hK2;have hvH:=Lib.hid hv;clear hv q1 q2 q3 hb2 hK2 hp k0 k1 k2 k3 hb hK
   gi_wp2_with fail
   refine⟨by simp,.inl ⟨_,_,rfl,run_takeDeferred hK2H.out,?_⟩⟩;have g1:=(q1H.out.kept (grownBy_putObj' _ D (.deferred none)) (by intro e;have:=Option.some.inj e;omega)).cell;have g2:=(q2H.out.kept (grownBy_putObj' _ D (.deferred none)) (by intro e;have:=Option.some.inj e;omega)).cell;have g3:=(q3H.out.kept (grownBy_putObj' _ D (.deferred none)) (by intro e;have:=Option.some.inj e;omega)).cell;have hB4:=hb2H.out.trans (belowK_b (w:=W0) (n₀:=B) (by omega) _ D _ (.deferred none) hD hK2H.out rfl rfl);rw[hvH.out];refine⟨.tuple #[(.int .i64 0),(.int .i64 0),(.int .i64 4)],?_,rfl,Mod.of_below (by rw[hB];exact hB4)⟩;clear hB4;simp[results,Tryz.results79,asAddr,go_sem,g1,g2,g3]
  case stop=>
   rintro D c pre W hD hpre ⟨⟨rfl,a,x,rfl,ha,hx,q1,q2,q3⟩,hb2⟩ hK2;obtain⟨k,hk,rfl,rfl⟩:=sizesP_last hpre;have hr:=round_at hk hx (fun j hj=>ha _ (sizesP_mem hj)) (by omega);have hv:findV n=.tuple #[.int .i64 k,.int .i64 (sizeAt k),.int .i64 0]:=by
    unfold findV;rw[hr.1,hr.2.1,hr.2.2];rfl
   have q1H:=Lib.hid q1;have q2H:=Lib.hid q2;have q3H:=Lib.hid q3;have hb2H:=Lib.hid hb2;have hK2H:=Lib.hid hK2;have hvH:=Lib.hid hv;clear hv q1 q2 q3 hb2 hK2 hr ha hx hpre
   gi_wp2_with fail
   refine⟨by simp,.inl ⟨_,_,rfl,run_takeDeferred hK2H.out,?_⟩⟩;have g1:=(q1H.out.kept (grownBy_putObj' _ D (.deferred none)) (by intro e;have:=Option.some.inj e;omega)).cell;have g2:=(q2H.out.kept (grownBy_putObj' _ D (.deferred none)) (by intro e;have:=Option.some.inj e;omega)).cell;have g3:=(q3H.out.kept (grownBy_putObj' _ D (.deferred none)) (by intro e;have:=Option.some.inj e;omega)).cell;have hB4:=hb2H.out.trans (belowK_b (w:=W0) (n₀:=B) (by omega) _ D _ (.deferred none) hD hK2H.out rfl rfl);rw[hvH.out];refine⟨.tuple #[(.int .i64 k),(.int .i64 (sizeAt k)),(.int .i64 0)],?_,rfl,Mod.of_below (by rw[hB];exact hB4)⟩;clear hB4;simp[results,Tryz.results79,asAddr,go_sem,g1,g2,g3]
theorem round_ok (n:Int) (w:World):Calls Tryz.prog 39 #[.int .i64 n] w fun e w'=>e=.returned (.tuple #[.int .i64 (roundN n),.int .i64 (roundE n)])∧Mod [] w w':=by
 go_enter Tryz.func39,Tryz.ntmps39;go_wp2_with fail;refine(szfind_ok n w).mono ?_;unfold findV;generalize(if roundE n=0 then(classN n:Int)else 0)=cl;rintro e w1 ⟨rfl,hm⟩;have hmH:=Lib.hid hm;clear hm;go_wp2_with fail;exact bodyPost_ret (v:=.tuple #[.int .i64 (roundN n),.int .i64 (roundE n)]) (by simp[results,Tryz.results39,go_sem]) rfl ⟨rfl,hmH.out⟩
open Ty (FieldsAt fields_get)
def bestV (o:Option Ext):Ext:=o.getD (0,0)
theorem better_eq {size:Int} {o:Option Ext} {x:Ext} (ho:∀b,o=some b→proper b):better size o x=(decide (size≤x.2)&&(decide ((bestV o).2=0)||decide (x.2<(bestV o).2))):=by
 unfold better bestV
 cases o with
 |none=>simp
 |some b=>
  have:=ho b rfl;unfold proper at this;have h:¬b.2=0:=by omega
  simp[h]
def findE (s:List Ext) (n:Int):Int:=if roundE n≠0 then roundE n else if bestP (roundN n) s=none then 18 else 0
def findX (s:List Ext) (n:Int):Ext:=if findE s n=0 then((bestV (bestP (roundN n) s)).1,roundN n)else(0,0)
theorem afind_ok {ab:Nat} {v mv:Value} {s:List Ext} {w:World} (hb:w.heap[ab]? =some (.cells #[v,mv] 204 (0,0))) (h:FieldsAt w v s) (hs:VS s) (n:Int):
  Calls Tryz.prog 119 #[.pointer (some ⟨ab,0,none⟩),.int .i64 n] w fun e w'=>e=.returned (.tuple #[.agg #[.int .i64 (findX s n).1,.int .i64 (findX s n).2],.int .i64 (findE s n)])∧Mod [] w w':=by
 obtain⟨va,vm,vc,rfl⟩:=exts_slice h;have hsm:=h.small;have hln:=fun ty w=>exts_len h ty w
 have hH:=Lib.hid h;have hsH:=Lib.hid hs;have hbH:=Lib.hid hb;have hal:=lt_of hb;clear h hs hb;obtain⟨rE,hrE⟩:∃r,roundE n=r:=⟨_,rfl⟩;obtain⟨rN,hrN⟩:∃r,roundN n=r:=⟨_,rfl⟩;have hro:=Lib.hid fun w=>round_ok n w
 rw[hrE,hrN]at hro;have hfE:findE s n=if rE≠0 then rE else if bestP rN s=none then 18 else 0:=by unfold findE;rw[hrE,hrN]
 have hfX:findX s n=if findE s n=0 then((bestV (bestP rN s)).1,rN)else(0,0):=by unfold findX;rw[hrN]
 generalize findX s n=fX at*;generalize findE s n=fE at*;have hfEH:=Lib.hid hfE;have hfXH:=Lib.hid hfX;have hrEH:=Lib.hid hrE;have hrNH:=Lib.hid hrN;clear hfE hfX hrE hrN;go_enter Tryz.func119,Tryz.ntmps119;go_wp2_with fail;refine(hro.out _).mono ?_;rintro e w1 ⟨rfl,hm1⟩;have hr4:=hm1.at (at_alloc w (.cells #[.int .i64 0,.int .i64 0] 56)) (by simp);have hm1H:=Lib.hid (((Mod.refl [] w).alloc (.cells #[.int .i64 0,.int .i64 0] 56)).nil_then hm1);clear hm1;have hr4w:w.heap.size≤w.heap.size:=Nat.le_refl _;generalize hr4e:w.heap.size=r4 at*;have hr4H:=Lib.hid hr4;have f4:=frozen_of hr4;have hkk:∀(W:World) (a b c d:Int),W.heap[r4]? =some (.cells #[.int .i64 a,.int .i64 b] 56 (0,0))→∀o,((W.setCell ⟨r4,0,none⟩ (.int .i64 c)).setCell ⟨r4,1,none⟩ (.int .i64 d)).cell? ⟨r4,o,none⟩=(#[.int .i64 c,.int .i64 d]:Array Value)[o]? :=fun W a b c d h=>cells_of (at_setCell (o:=1) (v:=.int .i64 d) (at_setCell (o:=0) (v:=.int .i64 c) h))
 have hkkH:=Lib.hid hkk;clear hkk;by_cases he:rE=0
 ·subst he;have hm2:=hm1H.out.alloc (.cells #[.int .i64 0,.int .i64 0] 56);have hr42:=at_alloc_old (o:=.cells #[.int .i64 0,.int .i64 0] 56) hr4;have hr8:=at_alloc w1 (.cells #[.int .i64 0,.int .i64 0] 56);have hne:r4≠w1.heap.size:=Nat.ne_of_lt (lt_of hr4);have hab2:=hm2.at hbH.out (by simp);have ka:=cells_of hab2;have hw8:w.heap.size≤w1.heap.size:=hm1H.out.size;have hm2H:=Lib.hid hm2;have hr42H:=Lib.hid hr42;have hr8H:=Lib.hid hr8;have hneH:=Lib.hid hne;clear hm2 hr42 hr8 hab2 hr4 f4 hm1H hr4H hne;go_wp2_with fail;generalize w1.alloc (.cells #[.int .i64 0,.int .i64 0] 56)=w2 at*;generalize w1.heap.size=r8 at*;clear ka;go_loopw [28] (fun i wr=>∃k:Nat,k≤s.length∧i=.int .i64 k∧Mod [] w wr∧wr.heap[r4]? =some (.cells #[.int .i64 0,.int .i64 0] 56 (0,0))∧wr.heap[r8]? =some (.cells #[.int .i64 (bestV (bestP rN (s.take k))).1,.int .i64 (bestV (bestP rN (s.take k))).2] 56 (0,0))) (fun i _=>s.length-(intOf i).toNat)
  case atStart=>exact⟨0,by omega,rfl,hm2H.out,hr42H.out,hr8H.out⟩
  case round=>
   obtain⟨k,hk,rfl,hm,q4,q8⟩:=hrel;have hmH:=Lib.hid hm;have q4H:=Lib.hid q4;have q8H:=Lib.hid q8;by_cases hlt:k<s.length
   ·obtain⟨sb,so,cap,hv,hb,c0,c1⟩:=fields_get (hH.out.mod hm) hlt;cases hv;have htk:s.take (k+1)=s.take k++[s[k]]:=by rw[List.take_add_one,List.getElem?_eq_getElem hlt];rfl
    have hbp:∀b,bestP rN (s.take k)=some b→proper b:=fun b hb'=>hsH.out.1 b (List.mem_of_mem_take (best_some hb').1)
    have hbt:=better_eq (size:=rN) (x:=s[k]) hbp;have hnx:bestP rN (s.take (k+1))=if better rN (bestP rN (s.take k)) s[k]=true then some s[k]else bestP rN (s.take k):=by rw[htk,bestP_snoc];rfl
    generalize s[k]=x at*;obtain⟨xo,xl⟩:=x;simp only at c0 c1 hbt;have k8:=cells_of (at_alloc_old (o:=.cells #[.int .i64 xo,.int .i64 xl] 56) q8);have f8:=frozen_of (at_alloc_old (o:=.cells #[.int .i64 xo,.int .i64 xl] 56) q8);have hmA:=Lib.hid (hm.alloc (.cells #[.int .i64 xo,.int .i64 xl] 56));have q4A:=Lib.hid (at_alloc_old (o:=.cells #[.int .i64 xo,.int .i64 xl] 56) q4);have q8A:=Lib.hid (at_alloc_old (o:=.cells #[.int .i64 xo,.int .i64 xl] 56) q8);have hnxH:=Lib.hid hnx;obtain⟨bo,bl,hbv⟩:∃bo bl,bestV (bestP rN (s.take k))=(bo,bl):=⟨_,_,rfl⟩;rw[hbv]at k8 hbt;clear hm q4 q8 htk hbp hnx hb;obtain⟨bt,hbte⟩:∃bt,better rN (bestP rN (s.take k)) (xo,xl)=bt:=⟨_,rfl⟩;rw[hbte]at hbt;simp only at hbt;have hbtH:=Lib.hid hbte;have hcond:(decide (xl≥rN)&&(decide (bl=0)||decide (xl<bl)))=bt:=hbt.symm;have hbtH2:=Lib.hid hbt;clear hbt hbte hcond;by_cases g1:rN≤xl<;>by_cases g2:bl=0<;>by_cases g3:xl<bl
    ·have hbt:bt=true:=by rw[hbtH2.out];simp[g1,g2]
     subst hbt;clear hbtH2;go_wp2_with fail;go_roundw
     case rel=>exact⟨k+1,by omega,by go_num,(hmA.out.setCell (p:=⟨r8,0,none⟩) (.inr (by show w.heap.size≤r8;omega)) _).setCell (p:=⟨r8,1,none⟩) (.inr (by show w.heap.size≤r8;omega)) _,at_setCell_other (at_setCell_other q4A.out hneH.out) hneH.out,by rw[hnxH.out,if_pos hbtH.out];exact at_setCell (o:=1) (at_setCell (o:=0) q8A.out)⟩
     case measure=>simp[intOf];omega
    ·have hbt:bt=true:=by rw[hbtH2.out];simp[g1,g2]
     subst hbt;clear hbtH2;go_wp2_with fail;go_roundw
     case rel=>exact⟨k+1,by omega,by go_num,(hmA.out.setCell (p:=⟨r8,0,none⟩) (.inr (by show w.heap.size≤r8;omega)) _).setCell (p:=⟨r8,1,none⟩) (.inr (by show w.heap.size≤r8;omega)) _,at_setCell_other (at_setCell_other q4A.out hneH.out) hneH.out,by rw[hnxH.out,if_pos hbtH.out];exact at_setCell (o:=1) (at_setCell (o:=0) q8A.out)⟩
     case measure=>simp[intOf];omega
    ·have hbt:bt=true:=by rw[hbtH2.out];simp[g1,g3]
     subst hbt;clear hbtH2;go_wp2_with fail;go_roundw
     case rel=>exact⟨k+1,by omega,by go_num,(hmA.out.setCell (p:=⟨r8,0,none⟩) (.inr (by show w.heap.size≤r8;omega)) _).setCell (p:=⟨r8,1,none⟩) (.inr (by show w.heap.size≤r8;omega)) _,at_setCell_other (at_setCell_other q4A.out hneH.out) hneH.out,by rw[hnxH.out,if_pos hbtH.out];exact at_setCell (o:=1) (at_setCell (o:=0) q8A.out)⟩
     case measure=>simp[intOf];omega
    ·have hbt:bt=false:=by rw[hbtH2.out];simp[g2,g3]
     subst hbt;clear hbtH2;go_wp2_with fail;go_roundw
     case rel=>exact⟨k+1,by omega,by go_num,hmA.out,q4A.out,by rw[hnxH.out,if_neg (by rw[hbtH.out];simp)];exact q8A.out⟩
     case measure=>simp[intOf];omega
    all_goals
     have hbt:bt=false:=by rw[hbtH2.out];simp[g1]
     subst hbt;clear hbtH2;go_wp2_with fail;go_roundw
     case rel=>exact⟨k+1,by omega,by go_num,hmA.out,q4A.out,by rw[hnxH.out,if_neg (by rw[hbtH.out];simp)];exact q8A.out⟩
     case measure=>simp[intOf];omega
   ·obtain rfl:k=s.length:=by omega
    rw[List.take_length]at q8;have c8:=cells_of q8;have c4:=cells_of q4;have f4:=frozen_of q4;have hfE:=hfEH.out;have hfX:=hfXH.out
    cases hbest:bestP rN s with
    |none=>
     rw[hbest]at c8 hfE hfX;have e1:bestV none=(0,0):=rfl;rw[e1]at c8;simp at hfE;rw[hfE,if_neg (by decide)]at hfX;have hk0:=hkkH.out wr 0 0 0 0 q4;have hmS:=Lib.hid ((hm.setCell (p:=⟨r4,0,none⟩) (.inr (by show w.heap.size≤r4;omega)) (.int .i64 0)).setCell (p:=⟨r4,1,none⟩) (.inr (by show w.heap.size≤r4;omega)) (.int .i64 0));subst hfE;subst hfX;clear q4 q8 hm q4H q8H;go_wp2_with fail;refine bodyPost_ret (v:=.tuple #[.agg #[.int .i64 0,.int .i64 0],.int .i64 18]) ?_ rfl ⟨rfl,hmS.out⟩;simp[results,Tryz.results119,go_sem,asAddr,hk0]
    |some b=>
     have hpb:=hsH.out.1 b (best_some hbest).1;unfold proper at hpb;rw[hbest]at c8 hfE hfX;have e1:bestV (some b)=b:=rfl;rw[e1]at c8 hfX;simp at hfE;rw[hfE,if_pos rfl]at hfX;obtain⟨bo,bl⟩:=b;simp only at c8 hfX hpb;have hbl:(bl==0)=false:=by simp;omega
     have hk0:=hkkH.out wr 0 0 bo rN q4;have hmS:=Lib.hid ((hm.setCell (p:=⟨r4,0,none⟩) (.inr (by show w.heap.size≤r4;omega)) (.int .i64 bo)).setCell (p:=⟨r4,1,none⟩) (.inr (by show w.heap.size≤r4;omega)) (.int .i64 rN));subst hfE;subst hfX;clear q4 q8 hm q4H q8H hpb;go_wp2_with fail;refine bodyPost_ret (v:=.tuple #[.agg #[.int .i64 bo,.int .i64 rN],.int .i64 0]) ?_ rfl ⟨rfl,hmS.out⟩;simp[results,Tryz.results119,go_sem,asAddr,hk0]
 ·have hz:rE≠0:=he;have hfe:fE=rE:=by rw[hfEH.out,if_pos hz]
  have hfx:fX=(0,0):=by rw[hfXH.out,if_neg (by rw[hfe];exact hz)]
  have c4:=cells_of hr4;have hk0:=hkkH.out w1 0 0 0 0 hr4;have hmS:=Lib.hid ((hm1H.out.setCell (p:=⟨r4,0,none⟩) (.inr (by show w.heap.size≤r4;omega)) (.int .i64 0)).setCell (p:=⟨r4,1,none⟩) (.inr (by show w.heap.size≤r4;omega)) (.int .i64 0));subst hfe;subst hfx;clear hr4 he;go_wp2_with fail;refine bodyPost_ret (v:=.tuple #[.agg #[.int .i64 0,.int .i64 0],.int .i64 fE]) ?_ rfl ⟨rfl,hmS.out⟩;simp[results,Tryz.results119,go_sem,asAddr,hk0]
end Go.Proofs.YteidpgdfocjdbaaGreat
