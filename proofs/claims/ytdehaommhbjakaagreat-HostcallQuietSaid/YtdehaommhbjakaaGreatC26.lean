/- Joined contracts. No conditions. -/
import Derived.Test.YtdehaommhbjakaaGreatC25
set_option maxHeartbeats 8000000
set_option maxRecDepth 100000
namespace Go.Proofs.YtdehaommhbjakaaGreat
open RowKit Stg
open Ty (aw fF ax eL iR fD mQ fW)
def EA (w:World) (size:Int) (e:Ending) (w':World):Prop:=
 ∃u,e=.returned (.tuple #[u,.int .i64 0])∧w'.ownsRow w.heap.size 104 2 u (dc 0 size).length (ax (dc 0 size))∧Mod [] w w'
theorem Dp (size:Int) (h0:0≤size) (h1:size≤1048576) (w:World):Calls Tryz.prog 128 #[.slice none 0 0,.int .i64 size] w (EA w size):=by
 obtain⟨i0,hi0,hz0,hz1,hz2⟩:=info_parts oy;have hnil:∀w:World,aw w (.slice none 0 0) []:=fun _=>.inl ⟨rfl,rfl⟩
 have hnH:=zh hnil;clear hnil;go_enter Tryz.func128,Tryz.ntmps128;go_wp2_with fail;refine(pV (hnH.out w) VS.nil).mono ?_;rintro e w1 ⟨rfl,hm1⟩;have hm1H:=zh hm1;clear hm1;go_wp2_with fail;refine(vO _ [] (by simp) w1 (hnH.out w1)).mono ?_;rintro e w2 ⟨u,rfl,hr2,hm2⟩;obtain⟨ua,ul,uc,rfl⟩:=cx hr2;have hm3:=(Mod.refl [] w2).alloc (.cells #[.int .i64 size,.int .i64 0] 104);have hr3:(w2.alloc (.cells #[.int .i64 size,.int .i64 0] 104)).ownsRow w1.heap.size 104 2 (.slice ua ul uc) 0 []:=aG hr2 hm3 (by simp);have hn3:=Ty.tF w2 (.int .i64 size) (.int .i64 0) 104;have hr3H:=zh hr3;have hn3H:=zh hn3;have hm2H:=zh (hm1H.out.ag hm2);have hm3H:=zh hm3;have hs1:=hm1H.out.size;have hs2:=hm2.size;clear hr3 hn3 hm3 hr2 hm2;go_wp2_with (at_builtin;refine dO _ rfl _ _ 120 rfl 104 i0 (.agg #[.int .i64 0,.int .i64 0]) 2 16 Tryz.underlying120 hi0 hz0 hz1 hz2 rfl (by decide) (.slice ua ul uc) 0 [] rfl (aE hr3H.out (Nat.zero_le _)) ⟨w2.heap.size,0,none⟩ 1 1 [.int .i64 size,.int .i64 0] rfl rfl hn3H.out (by simp[Value.oneCell']) (by unfold maxLen;omega) (by omega) ?_;intro v4 w4 hown4 hgrow4 hfr4;obtain⟨g4,c4,rfl,_,_⟩:=cW hown4 (by omega);have hown4H:=zh hown4;have hm4H:=zh ((hm2H.out.ag hm3H.out).grown hgrow4 (fun k hk=>.inr (by have:=(hr3H.out.lt k hk).1;omega)));clear hown4 hgrow4 hfr4);have hc0:=hown4H.out.cellAt 0 (by omega);have hc1:=hown4H.out.cellAt 1 (by omega);have hc0H:Hid (w4.cell? ⟨g4,0,none⟩=some (.int .i64 size)):=zh (by rw[hc0];rfl);have hc1H:Hid (w4.cell? ⟨g4,1,none⟩=some (.int .i64 0)):=zh (by rw[hc1];rfl);have hg4:g4<w4.heap.size:=(hown4H.out.lt g4 rfl).2;clear hc0 hc1 hr3H hn3H hm3H;go_loopw [44,6,7] (fun i ov av wr=>(i=.int .i64 0∧ov=.slice none 0 0∧av=.int .i64 0∧Mod [] w4 wr)∨(i=.int .i64 1∧av=.int .i64 size∧Mod [] w wr∧wr.ownsRow w.heap.size 104 2 ov (dc 0 size).length (ax (dc 0 size)))) (fun i _ _ _=>(1-intOf i).toNat)
 case atStart=>exact .inl ⟨rfl,rfl,rfl,Mod.refl _ _⟩
 case round=>
  rcases hrel with⟨rfl,rfl,rfl,hm⟩|⟨rfl,rfl,hm,hr⟩
  ·have d0:=(Ty.bg hm hg4 (by simp)).trans hc0H.out;have d1:=(Ty.bg hm hg4 (by simp)).trans hc1H.out;have hmw:=zh (hm4H.out.ag hm);have hwr:=hmw.out.size;clear hm;by_cases hp:0<size
   ·have hn6:=Ty.tF (wr.alloc (.cells #[.int .i64 size,.int .i64 0] 104)) (.int .i64 0) (.int .i64 size) 104;rw[show(wr.alloc (.cells #[.int .i64 size,.int .i64 0] 104)).heap.size=wr.heap.size+1 by simp]at hn6;have hn6H:=zh hn6;have hbx6:=zh (aI (o:=.cells #[.int .i64 0,.int .i64 size] 104) (an wr (.cells #[.int .i64 size,.int .i64 0] 104)));have hm6:=zh ((hmw.out.alloc (.cells #[.int .i64 size,.int .i64 0] 104)).alloc (.cells #[.int .i64 0,.int .i64 size] 104));have hgap:Hid (dc 0 size=[(0,size)]):=zh (by unfold dc;rw[if_pos hp,Int.sub_zero]);clear hn6;go_wp2_with (at_builtin;refine dO _ rfl _ _ 120 rfl 104 i0 (.agg #[.int .i64 0,.int .i64 0]) 2 16 Tryz.underlying120 hi0 hz0 hz1 hz2 rfl (by decide) (.slice none 0 0) 0 [] rfl (World.ownsRow_nil _ _ _ _) ⟨wr.heap.size+1,0,none⟩ 1 1 [.int .i64 0,.int .i64 size] rfl rfl hn6H.out (by simp[Value.oneCell']) (by unfold maxLen;omega) (by omega) ?_;intro v7 w7 hown7 hgrow7 hfr7;have hbx7:=(hgrow7.block wr.heap.size (by simp;omega) (by simp[Value.ownBlock])).trans hbx6.out;have kb:=ae hbx7;have hown7H:=zh hown7;have hm7H:=zh (hm6.out.grown hgrow7 (fun k hk=>by simp[Value.ownBlock]at hk));have hfr7H:=zh hfr7;clear hown7 hgrow7 hfr7 hbx7);refine(dV size 0 (by omega) (by omega) _).mono ?_;rw[Int.add_zero];rintro e w8 ⟨rfl,hm8⟩;have hm8H:=zh (hm7H.out.ag hm8);have hr8:Hid (w8.ownsRow w.heap.size 104 2 v7 (dc 0 size).length (ax (dc 0 size))):=zh (by
     rw[hgap.out];refine cy (aG hown7H.out hm8 (by simp)) fun x hx=> ?_
     rcases hfr7H.out x hx with h|h
     ·simp[Value.ownBlock]at h
     ·simp at h;omega)
    clear hm8 kb;go_wp2_with fail;go_roundw
    case rel=>exact .inr ⟨rfl,rfl,hm8H.out,hr8.out⟩
    case measure=>simp[intOf]
   ·have hgap:Hid (dc 0 size=[]):=zh (by unfold dc;rw[if_neg hp]);go_wp2_with fail;refine(dV size 0 (by omega) (by omega) _).mono ?_;rw[Int.add_zero];rintro e w8 ⟨rfl,hm8⟩;have hm8H:=zh ((hmw.out.alloc (.cells #[.int .i64 size,.int .i64 0] 104)).ag hm8);clear hm8;go_wp2_with fail;go_roundw
    case rel=>exact .inr ⟨rfl,rfl,hm8H.out,by rw[hgap.out];exact World.ownsRow_nil _ _ _ _⟩
    case measure=>simp[intOf]
  ·have hmH:=zh hm;have hrH:=zh hr;clear hm hr;go_wp2_with fail;exact bodyPost_ret (v:=.tuple #[_,.int .i64 0]) (by simp[results,Tryz.results128,go_sem]) rfl ⟨_,rfl,hrH.out,hmH.out⟩
attribute [local go_sem] Oper.semAt_some
theorem DH (s:Int) (w:World):Calls Tryz.prog 188 #[.int .i64 s] w fun e w'=>e=.returned (.int .i64 (jL s))∧w'=w:=by
 go_enter Tryz.func188,Tryz.ntmps188;by_cases h1:s<128
 ·go_wp2;go_ret;exact⟨by rw[jL,if_pos (by omega)];rfl,rfl⟩
 ·by_cases h2:s<2048
  ·go_wp2;go_ret;exact⟨by rw[jL,if_neg (by omega),if_pos (by omega)];rfl,rfl⟩
  ·go_wp2;go_ret;exact⟨by rw[jL,if_neg (by omega),if_neg (by omega)];rfl,rfl⟩
theorem A8 (w:World):Calls Tryz.prog 175 #[] w fun e w'=>e=.returned (.func (.func 187) #[] #[])∧w'=w:=by
 go_enter Tryz.func175,Tryz.ntmps175;go_wp2;go_ret;exact⟨rfl,rfl⟩
def gp (k:Nat):List (Int×Int):=(List.range k).map fun(i:Nat)=>((i:Int),bX i)
theorem rB (k:Nat):gp (k+1)=gp k++[((k:Int),bX k)]:=by simp[gp,List.range_succ]
theorem pF (k:Nat):(gp k).length=k:=by simp[gp]
theorem uv {k m:Nat} (h:k≤m):gp k<+:gp m:=by
 induction m with
 |zero=>rw[show k=0 by omega];exact List.prefix_refl _
 |succ m ih=>
  by_cases hk:k=m+1
  ·subst hk;exact List.prefix_refl _
  ·rw[rB];exact(ih (by omega)).trans (List.prefix_append _ _)
def oW (k:Nat):Int:=if k<43 then bX k else 67584
theorem DF (n':Nat) (hn':1≤n') (l:Nat) (J Jx:List (Int×Int)→World→Prop)
  (hY:∀pre p W,J pre W→pre.length<43→YieldAt Fence.wide (n'-1) Tryz.prog l #[.int .i64 p.1,.int .i64 p.2] W fun e W'=>
   (e=.returned (.bool true)∧J (pre++[p]) W'∧True)∨(e=.returned (.bool false)∧Jx (pre++[p]) W'))
  (W:World) (h0:J [] W):
  CallsIn Fence.wide n' Tryz.prog 187 #[.func (.yield l) #[] #[]] W fun e W'=>(∃v,e=.returned v)∧((∃ys,ys=gp 43∧J ys W')∨(∃pre,pre<+:gp 43∧Jx pre W')):=by
 have hYH:=zh hY;have h0H:=zh h0;clear hY h0;refine callsIn_of_wp Tryz.func187 rfl trivial ?_ rfl;simp only[Tryz.ntmps187,List.size_toArray,List.length_cons,List.length_nil,Nat.reduceAdd,Nat.reduceSub,Array.replicate_succ,Array.replicate_zero,List.push_toArray,List.append_toArray,List.nil_append,List.cons_append];gi_wp2_with fail
 gi_loopw [2,3] (fun ci si wr=>∃k:Nat,k≤43∧ci=.int .i64 k∧si=.int .i64 (oW k)∧J (gp k) wr) (fun ci _ _=>43-(intOf ci).toNat)
 case atStart=>exact⟨0,by omega,rfl,rfl,h0H.out⟩
 case round=>
  obtain⟨k,hk,rfl,rfl,hJs⟩:=hrel;clear h0H;by_cases hlt:k<43
  ·have hs:=qp hlt;have hx:oW k=bX k:=if_pos hlt;rw[hx];have hle:decide (bX k≤65536)=true:=by rw[decide_eq_true_eq];omega
   obtain⟨fn,tmps,assign,body,hy,hR⟩:=hYH.out _ ((k:Int),bX k) wr hJs (by rw[pF];exact hlt);rw[←rB]at hR;have hxn:bX k+jL (bX k)=oW (k+1):=by
    unfold oW;by_cases h:k+1<43
    ·rw[if_pos h,vP h]
    ·obtain rfl:k=42:=by omega
     rw[if_neg h];decide
   have hxH:=zh hxn;clear hJs hx hxn
   gi_wp2_with fail
   refine hR.mono ?_;rintro e W3 (⟨rfl,hJ3, -⟩|⟨rfl,hJx3⟩)
   ·have hJ3:=zh hJ3;clear hR hy
    gi_wp2_with fail
    refine⟨trivial,(callsIn_wide.2 (DH (bX k) W3)).mono ?_⟩;rintro e W4 ⟨rfl,rfl⟩;have hst:=uD hlt
    gi_wp2_with fail
    go_roundw
    case rel=>exact⟨k+1,by omega,by go_num,by rw[hxH.out],hJ3.out⟩
    case measure=>simp[intOf];omega
   ·have hJx3:=zh hJx3;clear hR hy
    gi_wp2_with fail
    refine bodyPost_ret (results_none rfl _ _ _) rfl ?_;exact⟨⟨_,rfl⟩,.inr ⟨_,uv (by omega),hJx3.out⟩⟩
  ·obtain rfl:k=43:=by omega
   have hJs:=zh hJs;have hx:oW 43=67584:=by decide
   rw[hx]
   gi_wp2_with fail
   go_end0;exact⟨⟨_,rfl⟩,.inl ⟨_,rfl,hJs.out⟩⟩
theorem Ar (n':Nat) (hn':1≤n') (w:World):SeqStopsK Fence.wide n' Tryz.prog 187 #[] (fun p:Int×Int=>#[Value.int .i64 p.1,.int .i64 p.2]) (fun _ _=>True) (fun ys=>ys=gp 43) (fun pre=>pre<+:gp 43) 43 w:=
 fun l J Jx W _ _ _ hY h0=>DF n' hn' l J Jx hY W h0
def lK (n:Int):Value:=.tuple #[.int .i64 (if gn n=0 then(ke n:Int)else 0),.int .i64 (cB n),.int .i64 (gn n)]
theorem AK {pre:List (Int×Int)} {x:Int×Int} (h:pre++[x]<+:gp 43):∃k,k<43∧pre=gp k∧x=((k:Int),bX k):=by
 have hl:=h.length_le;rw[pF,List.length_append,List.length_singleton]at hl;have hk:pre.length<43:=by omega
 have e:pre++[x]=gp (pre.length+1):=by
  have h1:=List.prefix_iff_eq_take.1 h;have h2:=List.prefix_iff_eq_take.1 (uv (show pre.length+1≤43 by omega));rw[pF]at h2;rw[h1,h2];simp
 rw[rB]at e;obtain⟨e1,e2⟩:=List.append_inj e (by rw[pF]);exact⟨_,hk,e1,by simpa using e2⟩
def s7 (n:Int) (l:List (Int×Int)):Prop:=∀p∈l,p.2<n
theorem vg {k m:Nat} (h:m<k):((m:Int),bX m)∈gp k:=by
 unfold gp;exact List.mem_map.2 ⟨m,List.mem_range.2 h,rfl⟩
theorem DM (n:Int) (w:World):Calls Tryz.prog 150 #[.int .i64 n] w fun e w'=>e=.returned (lK n)∧Mod [] w w':=by
 refine(callsIn_wide (n:=5)).1 ?_;refine callsIn_of_wp_marks Tryz.func150 rfl trivial ?_ rfl;simp only[Tryz.ntmps150,List.size_toArray,List.length_cons,List.length_nil,Nat.reduceAdd,Nat.reduceSub,Array.replicate_succ,Array.replicate_zero,List.push_toArray,List.append_toArray,List.nil_append,List.cons_append];have hm0:Mod [] w ((((w.alloc (.cells #[.int .i64 n] 3)).alloc (.cells #[.int .i64 0] 3)).alloc (.cells #[.int .i64 0] 3)).alloc (.cells #[.int .i64 0] 36)):=((((Mod.refl [] w).alloc _).alloc _).alloc _).alloc _;have z1:(w.alloc (.cells #[.int .i64 n] 3)).heap.size=w.heap.size+1:=by simp
 have z2:((w.alloc (.cells #[.int .i64 n] 3)).alloc (.cells #[.int .i64 0] 3)).heap.size=w.heap.size+1+1:=by simp
 have z3:(((w.alloc (.cells #[.int .i64 n] 3)).alloc (.cells #[.int .i64 0] 3)).alloc (.cells #[.int .i64 0] 3)).heap.size=w.heap.size+1+1+1:=by simp
 have z4:((((w.alloc (.cells #[.int .i64 n] 3)).alloc (.cells #[.int .i64 0] 3)).alloc (.cells #[.int .i64 0] 3)).alloc (.cells #[.int .i64 0] 36)).heap.size=w.heap.size+4:=by simp
 have b0:Boxed ((((w.alloc (.cells #[.int .i64 n] 3)).alloc (.cells #[.int .i64 0] 3)).alloc (.cells #[.int .i64 0] 3)).alloc (.cells #[.int .i64 0] 36)) w.heap.size 3 (.int .i64 n):=(((Boxed.new w 3 (.int .i64 n)).alloc _).alloc _).alloc _;have b1:=((Boxed.new (w.alloc (.cells #[.int .i64 n] 3)) 3 (.int .i64 0)).alloc (.cells #[.int .i64 0] 3)).alloc (.cells #[.int .i64 0] 36);have b2:=(Boxed.new ((w.alloc (.cells #[.int .i64 n] 3)).alloc (.cells #[.int .i64 0] 3)) 3 (.int .i64 0)).alloc (.cells #[.int .i64 0] 36);have b3:=Boxed.new (((w.alloc (.cells #[.int .i64 n] 3)).alloc (.cells #[.int .i64 0] 3)).alloc (.cells #[.int .i64 0] 3)) 36 (.int .i64 0);rw[z1]at b1;rw[z2]at b2;rw[z3]at b3;have b0H:=zh b0;have b1H:=zh b1;have b2H:=zh b2;have b3H:=zh b3;have hm0H:=zh hm0;have z4H:=zh z4;clear b0 b1 b2 b3 hm0 z1 z2 z3 z4;by_cases h1:n<1
 ·gi_wp2_with fail
  have hv:lK n=.tuple #[.int .i64 0,.int .i64 0,.int .i64 1]:=by unfold lK gn cB;simp[h1]
  rw[hv];refine⟨_,?_,rfl,((((Mod.refl [] w).alloc _).alloc _).alloc _).alloc _⟩;simp[results,Tryz.results150,asAddr,go_sem]
 ·have c0:=b0H.out.cell
  gi_wp2_with fail
  refine⟨trivial,(callsIn_wide.2 (A8 _)).mono ?_⟩;rintro e w4 ⟨rfl,rfl⟩;gi_wp2_with fail;generalize((((w.alloc (.cells #[.int .i64 n] 3)).alloc (.cells #[.int .i64 0] 3)).alloc (.cells #[.int .i64 0] 3)).alloc (.cells #[.int .i64 0] 36))=W0 at*;have hz:=z4H.out;generalize hB:w.heap.size=B at*;have hBl:=hm0H.out.below;rw[hB]at hBl;refine wpIn_rangeFunc_ownH rfl (by omega) (gf:=187) (lb:=#[]) rfl trivial (enters_of Tryz.func187 (by kernel_rfl) rfl) (Ar 4 (by omega) W0) (fun _ _=>trivial) (fun _ _ _ _ _ _ _ _=>trivial) (RowKit.Below.refl _ _) (fun _=>rfl)
   (fun(pre:List (Int×Int)) W=>(s7 n pre∧Boxed W B 3 (.int .i64 n))∧(Boxed W (B+1) 3 (.int .i64 0)∧(Boxed W (B+1+1) 3 (.int .i64 0)∧(Boxed W (B+1+1+1) 36 (.int .i64 0)∧RowKit.Below B w W))))
   (fun c (pre:List (Int×Int)) W=>(c=.ret∧∃a x,pre=a++[x]∧s7 n a∧n≤x.2∧Boxed W (B+1) 3 (.int .i64 x.1)∧Boxed W (B+1+1) 3 (.int .i64 x.2)∧Boxed W (B+1+1+1) 36 (.int .i64 0))∧RowKit.Below B w W)
   (OwnFrom.and (OwnFrom.and (ownFrom_pure _ _) (Own.from (boxed_own B 3 (fun(_:List (Int×Int))=>.int .i64 n)) _)) (OwnFrom.and (Own.from (boxed_own (B+1) 3 (fun(_:List (Int×Int))=>.int .i64 0)) _) (OwnFrom.and (Own.from (boxed_own (B+1+1) 3 (fun(_:List (Int×Int))=>.int .i64 0)) _) (OwnFrom.and (Own.from (boxed_own (B+1+1+1) 36 (fun(_:List (Int×Int))=>.int .i64 0)) _) (ownFrom_below (by omega) (by omega))))))
   ?hix ⟨⟨fun _ h=>(by cases h),b0H.out⟩,b1H.out,b2H.out,b3H.out,hBl⟩
   (fun(x:Int×Int) a' _=>a'={tmps:=#[.int .i64 n,.pointer (some ⟨B,0,none⟩),.pointer (some ⟨B+1,0,none⟩),.pointer (some ⟨B+1+1,0,none⟩),.pointer (some ⟨B+1+1+1,0,none⟩),.int .i64 x.1,.int .i64 x.2,.int .i64 n,.bool false,.func (.func 187) #[] #[],.int .i64 x.1,.int .i64 x.2,undef,undef,undef,undef,undef],defers:=[]}) (fun _ _=>ownFrom_pure _ _) ?assign ?body ?done ?stop
  case hix=>
   rintro c pre X Y row ⟨⟨rfl,a,x,h2,h3,h4,k1,k2,k3⟩,hb⟩ hg hr;exact⟨⟨rfl,a,x,h2,h3,h4,Own.from (boxed_own (B+1) 3 (fun(_:Unit)=>.int .i64 x.1)) _ () X Y row k1 hg hr,Own.from (boxed_own (B+1+1) 3 (fun(_:Unit)=>.int .i64 x.2)) _ () X Y row k2 hg hr,Own.from (boxed_own (B+1+1+1) 36 (fun(_:Unit)=>.int .i64 0)) _ () X Y row k3 hg hr⟩,ownFrom_below (w₀:=w) (n₀:=B) (by omega) (by omega) () X Y row hb hg hr⟩
  case assign=>
   rintro l pre ⟨xc,xs⟩ W K hI hK;have hIH:=zh hI;have hKH:=zh hK;clear hI hK
   gi_wp2_with fail
   exact hKH.out _ _ (KeepsFrom.refl _ _) trivial hIH.out rfl
  case body=>
   rintro l pre ⟨xc,xs⟩ a' W hl-⟨⟨hp,k0⟩,k1,k2,k3,hb⟩ rfl hlen;have c0:=k0.cell;have f1:=k1.frozen;have f2:=k2.frozen;have f3:=k3.frozen;have d1:=k1.cell;have d2:=k2.cell;have d3:=k3.cell;by_cases hc:n≤xs
   ·have q1:=((k1.set (.int .i64 xc)).other (B':=B+1+1) (by omega) (.int .i64 xs)).other (B':=B+1+1+1) (by omega) (.int .i64 0);have q2:=((k2.other (B':=B+1) (by omega) (.int .i64 xc)).set (.int .i64 xs)).other (B':=B+1+1+1) (by omega) (.int .i64 0);have q3:=((k3.other (B':=B+1) (by omega) (.int .i64 xc)).other (B':=B+1+1) (by omega) (.int .i64 xs)).set (.int .i64 0);have hk:=((KeepsOthers.setCell W ⟨B+1,0,none⟩ (.int .i64 xc)).trans (KeepsOthers.setCell _ ⟨B+1+1,0,none⟩ (.int .i64 xs))).trans (KeepsOthers.setCell _ ⟨B+1+1+1,0,none⟩ (.int .i64 0));have hb2:=((hb.setCell (p:=⟨B+1,0,none⟩) (by show B≤B+1;omega) (.int .i64 xc)).setCell (p:=⟨B+1+1,0,none⟩) (by show B≤B+1+1;omega) (.int .i64 xs)).setCell (p:=⟨B+1+1+1,0,none⟩) (by show B≤B+1+1+1;omega) (.int .i64 0);have q1H:=zh q1;have q2H:=zh q2;have q3H:=zh q3;have hkH:=zh hk;have hb2H:=zh hb2;have hpH:=zh hp;clear q1 q2 q3 hk hb2 hp k0 k1 k2 k3 hb
    gi_wp2_with fail
    exact⟨hkH.out.from _,⟨rfl,pre,(xc,xs),rfl,hpH.out,hc,q1H.out,q2H.out,q3H.out⟩,hb2H.out⟩
   ·have hI:=zh (⟨⟨fun p hp'=>by rcases List.mem_append.1 hp' with h|h;exact hp p h;obtain rfl:=List.mem_singleton.1 h;omega,k0⟩,k1,k2,k3,hb⟩:(s7 n (pre++[(xc,xs)])∧Boxed W B 3 (.int .i64 n))∧(Boxed W (B+1) 3 (.int .i64 0)∧(Boxed W (B+1+1) 3 (.int .i64 0)∧(Boxed W (B+1+1+1) 36 (.int .i64 0)∧RowKit.Below B w W))));clear hp k0 k1 k2 k3 hb d1 d2 d3 f1 f2 f3
    gi_wp2_with fail
    exact⟨KeepsFrom.refl _ _,trivial,hI.out⟩
  case done=>
   rintro D ys W hD rfl ⟨⟨hp,k0⟩,k1,k2,k3,hb⟩ hK;have f1:=k1.frozen;have f2:=k2.frozen;have f3:=k3.frozen;have d1:=k1.cell;have d2:=k2.cell;have d3:=k3.cell;have hbig:65536<n:=by have:=hp _ (vg (show 42<43 by omega));rw[vV]at this;exact this
   have hv:lK n=.tuple #[.int .i64 0,.int .i64 0,.int .i64 4]:=by
    unfold lK gn cB;simp[show¬n<1 by omega,hbig]
   have q1:=((k1.set (.int .i64 0)).other (B':=B+1+1) (by omega) (.int .i64 0)).other (B':=B+1+1+1) (by omega) (.int .i64 4);have q2:=((k2.other (B':=B+1) (by omega) (.int .i64 0)).set (.int .i64 0)).other (B':=B+1+1+1) (by omega) (.int .i64 4);have q3:=((k3.other (B':=B+1) (by omega) (.int .i64 0)).other (B':=B+1+1) (by omega) (.int .i64 0)).set (.int .i64 4);have hb2:=((hb.setCell (p:=⟨B+1,0,none⟩) (by show B≤B+1;omega) (.int .i64 0)).setCell (p:=⟨B+1+1,0,none⟩) (by show B≤B+1+1;omega) (.int .i64 0)).setCell (p:=⟨B+1+1+1,0,none⟩) (by show B≤B+1+1+1;omega) (.int .i64 4);have hK2:=dI (a:=⟨B+1+1+1,0,none⟩) (v:=.int .i64 4) (dI (a:=⟨B+1+1,0,none⟩) (v:=.int .i64 0) (dI (a:=⟨B+1,0,none⟩) (v:=.int .i64 0) hK (by show D≠B+1;omega)) (by show D≠B+1+1;omega)) (by show D≠B+1+1+1;omega);have q1H:=zh q1;have q2H:=zh q2;have q3H:=zh q3;have hb2H:=zh hb2;have hK2H:=zh hK2;have hvH:=zh hv;clear hv q1 q2 q3 hb2 hK2 hp k0 k1 k2 k3 hb hK
   gi_wp2_with fail
   refine⟨by simp,.inl ⟨_,_,rfl,run_takeDeferred hK2H.out,?_⟩⟩;have g1:=(q1H.out.kept (grownBy_putObj' _ D (.deferred none)) (by intro e;have:=Option.some.inj e;omega)).cell;have g2:=(q2H.out.kept (grownBy_putObj' _ D (.deferred none)) (by intro e;have:=Option.some.inj e;omega)).cell;have g3:=(q3H.out.kept (grownBy_putObj' _ D (.deferred none)) (by intro e;have:=Option.some.inj e;omega)).cell;have hB4:=hb2H.out.trans (belowK_b (w:=W0) (n₀:=B) (by omega) _ D _ (.deferred none) hD hK2H.out rfl rfl);rw[hvH.out];refine⟨.tuple #[(.int .i64 0),(.int .i64 0),(.int .i64 4)],?_,rfl,Mod.lB (by rw[hB];exact hB4)⟩;clear hB4;simp[results,Tryz.results150,asAddr,go_sem,g1,g2,g3]
  case stop=>
   rintro D c pre W hD hpre ⟨⟨rfl,a,x,rfl,ha,hx,q1,q2,q3⟩,hb2⟩ hK2;obtain⟨k,hk,rfl,rfl⟩:=AK hpre;have hr:=Ef hk hx (fun j hj=>ha _ (vg hj)) (by omega);have hv:lK n=.tuple #[.int .i64 k,.int .i64 (bX k),.int .i64 0]:=by
    unfold lK;rw[hr.1,hr.2.1,hr.2.2];rfl
   have q1H:=zh q1;have q2H:=zh q2;have q3H:=zh q3;have hb2H:=zh hb2;have hK2H:=zh hK2;have hvH:=zh hv;clear hv q1 q2 q3 hb2 hK2 hr ha hx hpre
   gi_wp2_with fail
   refine⟨by simp,.inl ⟨_,_,rfl,run_takeDeferred hK2H.out,?_⟩⟩;have g1:=(q1H.out.kept (grownBy_putObj' _ D (.deferred none)) (by intro e;have:=Option.some.inj e;omega)).cell;have g2:=(q2H.out.kept (grownBy_putObj' _ D (.deferred none)) (by intro e;have:=Option.some.inj e;omega)).cell;have g3:=(q3H.out.kept (grownBy_putObj' _ D (.deferred none)) (by intro e;have:=Option.some.inj e;omega)).cell;have hB4:=hb2H.out.trans (belowK_b (w:=W0) (n₀:=B) (by omega) _ D _ (.deferred none) hD hK2H.out rfl rfl);rw[hvH.out];refine⟨.tuple #[(.int .i64 k),(.int .i64 (bX k)),(.int .i64 0)],?_,rfl,Mod.lB (by rw[hB];exact hB4)⟩;clear hB4;simp[results,Tryz.results150,asAddr,go_sem,g1,g2,g3]
theorem xB (n:Int) (w:World):Calls Tryz.prog 102 #[.int .i64 n] w fun e w'=>e=.returned (.tuple #[.int .i64 (cB n),.int .i64 (gn n)])∧Mod [] w w':=by
 go_enter Tryz.func102,Tryz.ntmps102;go_wp2_with fail;refine(DM n w).mono ?_;unfold lK;generalize(if gn n=0 then(ke n:Int)else 0)=cl;rintro e w1 ⟨rfl,hm⟩;have hmH:=zh hm;clear hm;go_wp2_with fail;exact bodyPost_ret (v:=.tuple #[.int .i64 (cB n),.int .i64 (gn n)]) (by simp[results,Tryz.results102,go_sem]) rfl ⟨rfl,hmH.out⟩
open Ty (aw fF)
def jq (o:Option Ext):Ext:=o.getD (0,0)
theorem C1 {size:Int} {o:Option Ext} {x:Ext} (ho:∀b,o=some b→proper b):better size o x=(decide (size≤x.2)&&(decide ((jq o).2=0)||decide (x.2<(jq o).2))):=by
 unfold better jq
 cases o with
 |none=>simp
 |some b=>
  have:=ho b rfl;unfold proper at this;have h:¬b.2=0:=by omega
  simp[h]
def eW (s:List Ext) (n:Int):Int:=if gn n≠0 then gn n else if cT (cB n) s=none then 18 else 0
def dn (s:List Ext) (n:Int):Ext:=if eW s n=0 then((jq (cT (cB n) s)).1,cB n)else(0,0)
theorem xF {ab:Nat} {v mv:Value} {s:List Ext} {w:World} (hb:w.heap[ab]? =some (.cells #[v,mv] 228 (0,0))) (h:aw w v s) (hs:VS s) (n:Int):
  Calls Tryz.prog 177 #[.pointer (some ⟨ab,0,none⟩),.int .i64 n] w fun e w'=>e=.returned (.tuple #[.agg #[.int .i64 (dn s n).1,.int .i64 (dn s n).2],.int .i64 (eW s n)])∧Mod [] w w':=by
 obtain⟨va,vm,vc,rfl⟩:=nX h;have hsm:=h.small;have hln:=fun ty w=>mf h ty w
 have hH:=zh h;have hsH:=zh hs;have hbH:=zh hb;have hal:=aL hb;clear h hs hb;obtain⟨rE,hrE⟩:∃r,gn n=r:=⟨_,rfl⟩;obtain⟨rN,hrN⟩:∃r,cB n=r:=⟨_,rfl⟩;have hro:=zh fun w=>xB n w
 rw[hrE,hrN]at hro;have hfE:eW s n=if rE≠0 then rE else if cT rN s=none then 18 else 0:=by unfold eW;rw[hrE,hrN]
 have hfX:dn s n=if eW s n=0 then((jq (cT rN s)).1,rN)else(0,0):=by unfold dn;rw[hrN]
 generalize dn s n=fX at*;generalize eW s n=fE at*;have hfEH:=zh hfE;have hfXH:=zh hfX;have hrEH:=zh hrE;have hrNH:=zh hrN;clear hfE hfX hrE hrN;go_enter Tryz.func177,Tryz.ntmps177;go_wp2_with fail;refine(hro.out _).mono ?_;rintro e w1 ⟨rfl,hm1⟩;have hr4:=hm1.at (an w (.cells #[.int .i64 0,.int .i64 0] 104)) (by simp);have hm1H:=zh (((Mod.refl [] w).alloc (.cells #[.int .i64 0,.int .i64 0] 104)).ag hm1);clear hm1;have hr4w:w.heap.size≤w.heap.size:=Nat.le_refl _;generalize hr4e:w.heap.size=r4 at*;have hr4H:=zh hr4;have f4:=ay hr4;have hkk:∀(W:World) (a b c d:Int),W.heap[r4]? =some (.cells #[.int .i64 a,.int .i64 b] 104 (0,0))→∀o,((W.setCell ⟨r4,0,none⟩ (.int .i64 c)).setCell ⟨r4,1,none⟩ (.int .i64 d)).cell? ⟨r4,o,none⟩=(#[.int .i64 c,.int .i64 d]:Array Value)[o]? :=fun W a b c d h=>ae (aq (o:=1) (v:=.int .i64 d) (aq (o:=0) (v:=.int .i64 c) h))
 have hkkH:=zh hkk;clear hkk;by_cases he:rE=0
 ·subst he;have hm2:=hm1H.out.alloc (.cells #[.int .i64 0,.int .i64 0] 104);have hr42:=aI (o:=.cells #[.int .i64 0,.int .i64 0] 104) hr4;have hr8:=an w1 (.cells #[.int .i64 0,.int .i64 0] 104);have hne:r4≠w1.heap.size:=Nat.ne_of_lt (aL hr4);have hab2:=hm2.at hbH.out (by simp);have ka:=ae hab2;have hw8:w.heap.size≤w1.heap.size:=hm1H.out.size;have hm2H:=zh hm2;have hr42H:=zh hr42;have hr8H:=zh hr8;have hneH:=zh hne;clear hm2 hr42 hr8 hab2 hr4 f4 hm1H hr4H hne;go_wp2_with fail;generalize w1.alloc (.cells #[.int .i64 0,.int .i64 0] 104)=w2 at*;generalize w1.heap.size=r8 at*;clear ka;go_loopw [28] (fun i wr=>∃k:Nat,k≤s.length∧i=.int .i64 k∧Mod [] w wr∧wr.heap[r4]? =some (.cells #[.int .i64 0,.int .i64 0] 104 (0,0))∧wr.heap[r8]? =some (.cells #[.int .i64 (jq (cT rN (s.take k))).1,.int .i64 (jq (cT rN (s.take k))).2] 104 (0,0))) (fun i _=>s.length-(intOf i).toNat)
  case atStart=>exact⟨0,by omega,rfl,hm2H.out,hr42H.out,hr8H.out⟩
  case round=>
   obtain⟨k,hk,rfl,hm,q4,q8⟩:=hrel;have hmH:=zh hm;have q4H:=zh q4;have q8H:=zh q8;by_cases hlt:k<s.length
   ·obtain⟨sb,so,cap,hv,hb,c0,c1⟩:=fF (hH.out.mod hm) hlt;cases hv;have htk:s.take (k+1)=s.take k++[s[k]]:=by rw[List.take_add_one,List.getElem?_eq_getElem hlt];rfl
    have hbp:∀b,cT rN (s.take k)=some b→proper b:=fun b hb'=>hsH.out.1 b (List.mem_of_mem_take (pT hb').1)
    have hbt:=C1 (size:=rN) (x:=s[k]) hbp;have hnx:cT rN (s.take (k+1))=if better rN (cT rN (s.take k)) s[k]=true then some s[k]else cT rN (s.take k):=by rw[htk,Cl];rfl
    generalize s[k]=x at*;obtain⟨xo,xl⟩:=x;simp only at c0 c1 hbt;have k8:=ae (aI (o:=.cells #[.int .i64 xo,.int .i64 xl] 104) q8);have f8:=ay (aI (o:=.cells #[.int .i64 xo,.int .i64 xl] 104) q8);have hmA:=zh (hm.alloc (.cells #[.int .i64 xo,.int .i64 xl] 104));have q4A:=zh (aI (o:=.cells #[.int .i64 xo,.int .i64 xl] 104) q4);have q8A:=zh (aI (o:=.cells #[.int .i64 xo,.int .i64 xl] 104) q8);have hnxH:=zh hnx;obtain⟨bo,bl,hbv⟩:∃bo bl,jq (cT rN (s.take k))=(bo,bl):=⟨_,_,rfl⟩;rw[hbv]at k8 hbt;clear hm q4 q8 htk hbp hnx hb;obtain⟨bt,hbte⟩:∃bt,better rN (cT rN (s.take k)) (xo,xl)=bt:=⟨_,rfl⟩;rw[hbte]at hbt;simp only at hbt;have hbtH:=zh hbte;have hcond:(decide (xl≥rN)&&(decide (bl=0)||decide (xl<bl)))=bt:=hbt.symm;have hbtH2:=zh hbt;clear hbt hbte hcond;by_cases g1:rN≤xl<;>by_cases g2:bl=0<;>by_cases g3:xl<bl
    ·have hbt:bt=true:=by rw[hbtH2.out];simp[g1,g2]
     subst hbt;clear hbtH2;go_wp2_with fail;go_roundw
     case rel=>exact⟨k+1,by omega,by go_num,(hmA.out.setCell (p:=⟨r8,0,none⟩) (.inr (by show w.heap.size≤r8;omega)) _).setCell (p:=⟨r8,1,none⟩) (.inr (by show w.heap.size≤r8;omega)) _,dI (dI q4A.out hneH.out) hneH.out,by rw[hnxH.out,if_pos hbtH.out];exact aq (o:=1) (aq (o:=0) q8A.out)⟩
     case measure=>simp[intOf];omega
    ·have hbt:bt=true:=by rw[hbtH2.out];simp[g1,g2]
     subst hbt;clear hbtH2;go_wp2_with fail;go_roundw
     case rel=>exact⟨k+1,by omega,by go_num,(hmA.out.setCell (p:=⟨r8,0,none⟩) (.inr (by show w.heap.size≤r8;omega)) _).setCell (p:=⟨r8,1,none⟩) (.inr (by show w.heap.size≤r8;omega)) _,dI (dI q4A.out hneH.out) hneH.out,by rw[hnxH.out,if_pos hbtH.out];exact aq (o:=1) (aq (o:=0) q8A.out)⟩
     case measure=>simp[intOf];omega
    ·have hbt:bt=true:=by rw[hbtH2.out];simp[g1,g3]
     subst hbt;clear hbtH2;go_wp2_with fail;go_roundw
     case rel=>exact⟨k+1,by omega,by go_num,(hmA.out.setCell (p:=⟨r8,0,none⟩) (.inr (by show w.heap.size≤r8;omega)) _).setCell (p:=⟨r8,1,none⟩) (.inr (by show w.heap.size≤r8;omega)) _,dI (dI q4A.out hneH.out) hneH.out,by rw[hnxH.out,if_pos hbtH.out];exact aq (o:=1) (aq (o:=0) q8A.out)⟩
     case measure=>simp[intOf];omega
    ·have hbt:bt=false:=by rw[hbtH2.out];simp[g2,g3]
     subst hbt;clear hbtH2;go_wp2_with fail;go_roundw
     case rel=>exact⟨k+1,by omega,by go_num,hmA.out,q4A.out,by rw[hnxH.out,if_neg (by rw[hbtH.out];simp)];exact q8A.out⟩
     case measure=>simp[intOf];omega
    all_goals
     have hbt:bt=false:=by rw[hbtH2.out];simp[g1]
     subst hbt;clear hbtH2;go_wp2_with fail;go_roundw
     case rel=>exact⟨k+1,by omega,by go_num,hmA.out,q4A.out,by rw[hnxH.out,if_neg (by rw[hbtH.out];simp)];exact q8A.out⟩
     case measure=>simp[intOf];omega
   ·obtain rfl:k=s.length:=by omega
    rw[List.take_length]at q8;have c8:=ae q8;have c4:=ae q4;have f4:=ay q4;have hfE:=hfEH.out;have hfX:=hfXH.out
    cases hbest:cT rN s with
    |none=>
     rw[hbest]at c8 hfE hfX;have e1:jq none=(0,0):=rfl;rw[e1]at c8;simp at hfE;rw[hfE,if_neg (by decide)]at hfX;have hk0:=hkkH.out wr 0 0 0 0 q4;have hmS:=zh ((hm.setCell (p:=⟨r4,0,none⟩) (.inr (by show w.heap.size≤r4;omega)) (.int .i64 0)).setCell (p:=⟨r4,1,none⟩) (.inr (by show w.heap.size≤r4;omega)) (.int .i64 0));subst hfE;subst hfX;clear q4 q8 hm q4H q8H;go_wp2_with fail;refine bodyPost_ret (v:=.tuple #[.agg #[.int .i64 0,.int .i64 0],.int .i64 18]) ?_ rfl ⟨rfl,hmS.out⟩;simp[results,Tryz.results177,go_sem,asAddr,hk0]
    |some b=>
     have hpb:=hsH.out.1 b (pT hbest).1;unfold proper at hpb;rw[hbest]at c8 hfE hfX;have e1:jq (some b)=b:=rfl;rw[e1]at c8 hfX;simp at hfE;rw[hfE,if_pos rfl]at hfX;obtain⟨bo,bl⟩:=b;simp only at c8 hfX hpb;have hbl:(bl==0)=false:=by simp;omega
     have hk0:=hkkH.out wr 0 0 bo rN q4;have hmS:=zh ((hm.setCell (p:=⟨r4,0,none⟩) (.inr (by show w.heap.size≤r4;omega)) (.int .i64 bo)).setCell (p:=⟨r4,1,none⟩) (.inr (by show w.heap.size≤r4;omega)) (.int .i64 rN));subst hfE;subst hfX;clear q4 q8 hm q4H q8H hpb;go_wp2_with fail;refine bodyPost_ret (v:=.tuple #[.agg #[.int .i64 bo,.int .i64 rN],.int .i64 0]) ?_ rfl ⟨rfl,hmS.out⟩;simp[results,Tryz.results177,go_sem,asAddr,hk0]
 ·have hz:rE≠0:=he;have hfe:fE=rE:=by rw[hfEH.out,if_pos hz]
  have hfx:fX=(0,0):=by rw[hfXH.out,if_neg (by rw[hfe];exact hz)]
  have c4:=ae hr4;have hk0:=hkkH.out w1 0 0 0 0 hr4;have hmS:=zh ((hm1H.out.setCell (p:=⟨r4,0,none⟩) (.inr (by show w.heap.size≤r4;omega)) (.int .i64 0)).setCell (p:=⟨r4,1,none⟩) (.inr (by show w.heap.size≤r4;omega)) (.int .i64 0));subst hfe;subst hfx;clear hr4 he;go_wp2_with fail;refine bodyPost_ret (v:=.tuple #[.agg #[.int .i64 0,.int .i64 0],.int .i64 fE]) ?_ rfl ⟨rfl,hmS.out⟩;simp[results,Tryz.results177,go_sem,asAddr,hk0]
end Go.Proofs.YtdehaommhbjakaaGreat
namespace Go
namespace Stg
theorem ui {P:Program} {t kt et:TypeId} {z:Value} (ht:P.underlying t=some (.map kt et)) (hk:P.underlying kt=some (.int .i64)) (hz:∀w,(zeroValue et).run P w=.ok z w)
  {w:World} {b:Nat} {es:Array MapEntry} {c:Nat} (hb:w.heap[b]? =some (.map es c)) (h:cL es.toList) (k:Int):
  (Instr.lookup t (.map (some b)) (.int .i64 k) true).run P w=.ok (.tuple #[(bU k es.toList).getD z,.bool (bU k es.toList).isSome]) w:=by
 unfold Instr.lookup;simp[run_underlying ht,run_getObj_map hb,nN hk,nO hk k es.toList h]
 cases hg:bU k es.toList with
 |none=>
  have:=(jK k es.toList 0 h).2 hg;simp[this,hz]
 |some v=>
  cases hp:dE k es.toList 0 with
  |none=>have:=(jK k es.toList 0 h).1 hp;rw[this]at hg;cases hg
  |some j=>simp
end Stg
end Go
namespace Go.Proofs.YtdehaommhbjakaaGreat
open RowKit Stg
def cK (used:List Ext) (off:Int):Option Int:=(used.find? fun e=>decide (e.1=off)).map (·.2)
def fI (w:World) (bm:Nat) (used:List Ext):Prop:=∃es c,w.heap[bm]? =some (.map es c)∧cL es.toList∧∀off,bU off es.toList=(cK used off).map (.int .i64)
theorem fI.mod {S:List Nat} {w w':World} {bm:Nat} {used:List Ext} (h:fI w bm used) (hm:Mod S w w') (hS:bm∉S):fI w' bm used:=
 let ⟨es,c,h1,h2,h3⟩:=h;⟨es,c,hm.at h1 hS,h2,h3⟩
theorem fI.look {w:World} {bm:Nat} {used:List Ext} (h:fI w bm used) (k:Int):
  (Instr.lookup 140 (.map (some bm)) (.int .i64 k) true).run Tryz.prog w=.ok (.tuple #[.int .i64 ((cK used k).getD 0),.bool (cK used k).isSome]) w:=by
 obtain⟨es,c,h1,h2,h3⟩:=h;rw[ui (z:=.int .i64 0) Tryz.underlying140 Tryz.underlying3 (fun w=>Tryz.zeroValue3 w) h1 h2,h3];cases cK used k<;>rfl
def hasB (used:List Ext) (e:Ext):Bool:=decide (cK used e.1=some e.2)
theorem zb {ab bm:Nat} {v:Value} {used:List Ext} {w:World} (hb:w.heap[ab]? =some (.cells #[v,.map (some bm)] 228 (0,0))) (ht:fI w bm used) (o l:Int):
  Calls Tryz.prog 144 #[.pointer (some ⟨ab,0,none⟩),.agg #[.int .i64 o,.int .i64 l]] w fun e w'=>e=.returned (.bool (hasB used (o,l)))∧Mod [] w w':=by
 have hm:=(Mod.refl [] w).alloc (.cells #[.int .i64 o,.int .i64 l] 104);have hx:=an w (.cells #[.int .i64 o,.int .i64 l] 104);have hb2:=hm.at hb (by simp);have ht2:=ht.mod hm (by simp);have hH:∀r,cK used o=r→hasB used (o,l)=decide (r=some l):=fun r hr=>by unfold hasB;rw[hr]
 have hmH:=zh hm;obtain⟨r,hr⟩:∃r,cK used o=r:=⟨_,rfl⟩;rw[hH r hr];clear hb ht hm hH;go_enter Tryz.func144,Tryz.ntmps144;go_wp2_with fail;generalize w.heap.size=bx at*;generalize w.alloc (.cells #[.int .i64 o,.int .i64 l] 104)=W at*;have k1:=GW.cells (S:=[]) hb2 (by simp);have k2:=GW.cells (S:=[]) hx (by simp);have hlk:∀x:GW [] W,(Instr.lookup 140 (.map (some bm)) (.int .i64 o) true).run Tryz.prog x.1=.ok (.tuple #[.int .i64 ((cK used o).getD 0),.bool (cK used o).isSome]) x.1:=fun x=>(ht2.mod x.2 (by simp)).look o
 rw[hr]at hlk;clear hr ht2 hb2 hx;refine aS (by kernel_rfl) (by kernel_rfl) ?_;refine sq 12 ?_;refine au fun w2 hm2=> ?_
 have hb3:=zh (hmH.out.ag hm2);have kx:=fun o=>k2 ⟨w2,hm2⟩ o
 simp only at kx;clear k1 k2 hlk hm2
 cases r with
 |none=>
  simp only[Option.getD_none,Option.isSome_none];go_wp2_with fail;go_ret;exact⟨by simp,hb3.out⟩
 |some a=>
  simp only[Option.getD_some,Option.isSome_some];go_wp2_with fail;go_ret;exact⟨by simp[BEq.beq],hb3.out⟩
end Go.Proofs.YtdehaommhbjakaaGreat
