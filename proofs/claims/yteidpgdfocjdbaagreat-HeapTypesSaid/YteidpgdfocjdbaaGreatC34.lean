/- Joined contracts. No conditions. -/
import Derived.Test.YteidpgdfocjdbaaGreatCS
import Derived.Test.YteidpgdfocjdbaaGreatC05
import Derived.Test.YteidpgdfocjdbaaGreatC20
import Derived.Test.YteidpgdfocjdbaaGreatC33
set_option maxHeartbeats 4000000
set_option maxRecDepth 20000
namespace Go.Proofs.YteidpgdfocjdbaaGreat
open Go Go.RowKit Go.Stg
def wOk (n:Nat):Prop:=n=1∨n=2∨n=4∨n=8
theorem wOk.pos {n:Nat} (h:wOk n):0<n∧n≤8:=by unfold wOk at h;omega
theorem arfield_ok {w:World} {ar ab g m cap:Nat} {fr used:List Ext} {f:List Nat} (hb:w.heap[ar]? =some (.cells #[.pointer (some ⟨ab,0,none⟩),.slice (some ⟨g,0,none⟩) m cap] 147 (0,0))) (ha:(alC ab fr used).on w f)
  (o l:Nat) (hu:hasB used (o,l)=true) (hl:o+l≤m) (hc:m≤cap) (hm:m≤1048576) (hcm:cap≤maxLen) (off n:Nat) (hn:off+n≤l) (hw:wOk n):
  Calls Tryz.prog 98 #[.pointer (some ⟨ar,0,none⟩),.agg #[.int .i64 o,.int .i64 l],.int .i64 off,.int .i64 n] w fun e w'=>e=.returned (.tuple #[.slice (some ⟨g,o+off,none⟩) n (cap-o-off),.int .i64 0])∧Mod [] w w':=by
 have hn0:=hw.pos;have hm0:=Lib.hid ((Mod.refl [] w).alloc (.cells #[.int .i64 o,.int .i64 l] 56));have hsl:=Lib.hid fun w' (h':Mod [] w w')=>arslice_ok (h'.at hb (by simp)) (Comp.keep (alC ab fr used) ha h' (by simp)) o l hu (by omega) hl hc hm hcm
 have hwi:=Lib.hid fun w=>arwithin_ok (some ⟨g,o,none⟩) l (cap-o) (by omega) off n (by omega) w
 have hwt:withinB off n l=true:=by unfold withinB;simp;omega
 rw[hwt]at hwi;have hne:¬(cap-o=off):=by omega
 have hwH:=Lib.hid hw;clear hb ha hu hwt hw;rcases hwH.out with rfl|rfl|rfl|rfl
 all_goals
  clear hwH;go_enter Tryz.func98,Tryz.ntmps98;go_wp2_with fail;refine(hsl.out _ hm0.out).mono ?_;rintro e w1 ⟨rfl,hm1⟩;have hmH:=Lib.hid (hm0.out.nil_then hm1);clear hm1 hm0 hsl;go_wp2_with fail;refine(hwi.out _).mono ?_;rintro e w2 ⟨rfl,hm2⟩;have hm2H:=Lib.hid (hmH.out.nil_then hm2);clear hm2 hwi hmH;go_wp2_with fail;go_ret2;refine⟨?_,hm2H.out⟩
  first
  |rfl
  |(show Ending.returned (.tuple #[.slice _ (off+_-off) _,_])=_
    rw[Nat.add_sub_cancel_left];rfl)
theorem arload_ok {ar:Nat} {size:Int} {used:List Ext} {B:List Int} {w:World} {f:List Nat} (h:(arC ar size used B).on w f) {o l:Nat} (hx:((o:Int),(l:Int))∈used) (off n:Nat) (hn:off+n≤l) (hw:wOk n):
  Calls Tryz.prog 59 #[.pointer (some ⟨ar,0,none⟩),.agg #[.int .i64 o,.int .i64 l],.int .i64 off,.int .i64 n] w fun e w'=>e=.returned (.tuple #[.int .u64 (little ((B.drop (o+off)).take n)),.int .i64 0])∧Mod [] w w':=by
 obtain⟨hk,⟨hl0,hol,hB⟩,hhas,ab,g,cap,⟨hc1,hc2⟩,hH⟩:=arC.view h hx;have hn8:=hw.pos;have hS:=Scene.start hH;have hm0:=Lib.hid ((Mod.refl [] w).alloc (.cells #[.int .i64 o,.int .i64 l] 56));have hfd:=Lib.hid fun w' (h':Mod [] w w')=>arfield_ok (h'.at (hS.block 0 rfl) (by simp)) (Comp.keep (alC ab (frOf size used) used) (hS.part 1 rfl).choose_spec.1 h' (by simp)) o l hhas hol hc1 hB hc2 off n hn hw
 have hrow:=Lib.hid (hS.row 2 rfl);have hbyte:=Lib.hid hk.byte;have hlen:((B.drop (o+off)).take n).length=n:=by simp;omega
 have hby:∀x∈(B.drop (o+off)).take n,0≤x∧x≤255:=fun x hx=>hk.byte x (List.mem_of_mem_drop (List.mem_of_mem_take hx))
 have hbyH:=Lib.hid hby;generalize hbs:(B.drop (o+off)).take n=bs at*;have hbsH:=Lib.hid hbs;clear h hH hS hhas hk hx hbs hby;go_enter Tryz.func59,Tryz.ntmps59;go_wp2_with fail;refine(hfd.out _ hm0.out).mono ?_;rintro e w1 ⟨rfl,hm1⟩;have hmH:=Lib.hid (hm0.out.nil_then hm1);have hget:=Lib.hid fun(i:Nat) (c:Int) (hc:bs[i]? =some c)=>(show(0≤c∧c≤255)∧w1.cell? ⟨g,o+off+i,none⟩=some (.int .u8 c) by
  rw[←hbsH.out]at hc;obtain⟨hi,hc'⟩:=List.getElem?_eq_some_iff.1 hc;have hp:=bytes_piece (row_mod hrow.out hmH.out (by simp)) hbyte.out (p:=o+off) (m:=n) (by omega) (by omega) (fun _=>rfl) 0;rcases hp with⟨hp,_⟩|⟨sb,so,c2,hp,_,_,h4⟩
  ·cases hp
  ·simp at hp;obtain⟨⟨rfl,rfl⟩,_⟩:=hp;have:=h4 i hi;rw[hc']at this;exact this)
 clear hm1 hm0 hfd hrow hbyte;go_wp2_with fail;go_loopw [25,12] (fun i v wr=>∃k:Nat,k≤n∧i=.int .i64 k∧v=.int .u64 (little (bs.take k))∧wr=w1) (fun i _ _=>n-(intOf i).toNat)
 case atStart=>exact⟨0,by omega,rfl,by simp[little],rfl⟩
 case round=>
  obtain⟨k,hk,rfl,rfl,rfl⟩:=hrel;by_cases hlt:k<n
  ·have hcase:k=0∨k=1∨k=2∨k=3∨k=4∨k=5∨k=6∨k=7:=by omega
   rcases hcase with rfl|rfl|rfl|rfl|rfl|rfl|rfl|rfl
   ·obtain⟨c,hc,ht⟩:∃c,bs[0]? =some c∧bs.take 1=bs.take 0++[c]:=⟨bs[0]'(by omega),by simp,by rw[List.take_add_one,List.getElem?_eq_getElem (by omega)];rfl⟩;have hcb:=(hget.out 0 c hc);obtain⟨⟨c0,c1⟩,hcell⟩:=hcb
    try simp only[Nat.add_zero]at hcell
    have hr:=little_range (bs.take 0) fun b hb=>hbyH.out b (List.mem_of_mem_take hb)
    rw[List.length_take,Nat.min_eq_left (by omega)]at hr;have hlt:=little_snoc c (bs.take 0);rw[←ht,List.length_take,Nat.min_eq_left (by omega)]at hlt;have hltH:=Lib.hid hlt;clear ht hlt hc;obtain⟨vk,hvk⟩:∃vk,little (bs.take 0)=vk:=⟨_,rfl⟩;rw[hvk]at hltH hr;simp only[hvk];simp only[Int.reducePow]at hr hltH;have hor:=Tb.or_low (8*0) (c*1) vk (by omega) (by simp only[Nat.reduceMul,Int.reducePow];omega) (by omega) hr.1 (by simp only[Nat.reduceMul,Int.reducePow];omega) (by omega);clear hvk
    try simp only[Int.mul_one]at hor
    go_wp2_with fail;go_roundw
    case rel=>exact⟨1,by omega,by go_num,by first|(rw[hltH.out]<;>simp only[Int.mul_one];done)|(rw[hltH.out]<;>simp only[Int.mul_one,hor]),trivial⟩
    case measure=>simp[intOf];omega
   ·obtain⟨c,hc,ht⟩:∃c,bs[1]? =some c∧bs.take 2=bs.take 1++[c]:=⟨bs[1]'(by omega),by simp,by rw[List.take_add_one,List.getElem?_eq_getElem (by omega)];rfl⟩;have hcb:=(hget.out 1 c hc);obtain⟨⟨c0,c1⟩,hcell⟩:=hcb
    try simp only[Nat.add_zero]at hcell
    have hr:=little_range (bs.take 1) fun b hb=>hbyH.out b (List.mem_of_mem_take hb)
    rw[List.length_take,Nat.min_eq_left (by omega)]at hr;have hlt:=little_snoc c (bs.take 1);rw[←ht,List.length_take,Nat.min_eq_left (by omega)]at hlt;have hltH:=Lib.hid hlt;clear ht hlt hc;obtain⟨vk,hvk⟩:∃vk,little (bs.take 1)=vk:=⟨_,rfl⟩;rw[hvk]at hltH hr;simp only[hvk];simp only[Int.reducePow]at hr hltH;have hor:=Tb.or_low (8*1) (c*256) vk (by omega) (by simp only[Nat.reduceMul,Int.reducePow];omega) (by omega) hr.1 (by simp only[Nat.reduceMul,Int.reducePow];omega) (by omega);clear hvk
    try simp only[Int.mul_one]at hor
    go_wp2_with fail;go_roundw
    case rel=>exact⟨2,by omega,by go_num,by first|(rw[hltH.out]<;>simp only[Int.mul_one];done)|(rw[hltH.out]<;>simp only[Int.mul_one,hor]),trivial⟩
    case measure=>simp[intOf];omega
   ·obtain⟨c,hc,ht⟩:∃c,bs[2]? =some c∧bs.take 3=bs.take 2++[c]:=⟨bs[2]'(by omega),by simp,by rw[List.take_add_one,List.getElem?_eq_getElem (by omega)];rfl⟩;have hcb:=(hget.out 2 c hc);obtain⟨⟨c0,c1⟩,hcell⟩:=hcb
    try simp only[Nat.add_zero]at hcell
    have hr:=little_range (bs.take 2) fun b hb=>hbyH.out b (List.mem_of_mem_take hb)
    rw[List.length_take,Nat.min_eq_left (by omega)]at hr;have hlt:=little_snoc c (bs.take 2);rw[←ht,List.length_take,Nat.min_eq_left (by omega)]at hlt;have hltH:=Lib.hid hlt;clear ht hlt hc;obtain⟨vk,hvk⟩:∃vk,little (bs.take 2)=vk:=⟨_,rfl⟩;rw[hvk]at hltH hr;simp only[hvk];simp only[Int.reducePow]at hr hltH;have hor:=Tb.or_low (8*2) (c*65536) vk (by omega) (by simp only[Nat.reduceMul,Int.reducePow];omega) (by omega) hr.1 (by simp only[Nat.reduceMul,Int.reducePow];omega) (by omega);clear hvk
    try simp only[Int.mul_one]at hor
    go_wp2_with fail;go_roundw
    case rel=>exact⟨3,by omega,by go_num,by first|(rw[hltH.out]<;>simp only[Int.mul_one];done)|(rw[hltH.out]<;>simp only[Int.mul_one,hor]),trivial⟩
    case measure=>simp[intOf];omega
   ·obtain⟨c,hc,ht⟩:∃c,bs[3]? =some c∧bs.take 4=bs.take 3++[c]:=⟨bs[3]'(by omega),by simp,by rw[List.take_add_one,List.getElem?_eq_getElem (by omega)];rfl⟩;have hcb:=(hget.out 3 c hc);obtain⟨⟨c0,c1⟩,hcell⟩:=hcb
    try simp only[Nat.add_zero]at hcell
    have hr:=little_range (bs.take 3) fun b hb=>hbyH.out b (List.mem_of_mem_take hb)
    rw[List.length_take,Nat.min_eq_left (by omega)]at hr;have hlt:=little_snoc c (bs.take 3);rw[←ht,List.length_take,Nat.min_eq_left (by omega)]at hlt;have hltH:=Lib.hid hlt;clear ht hlt hc;obtain⟨vk,hvk⟩:∃vk,little (bs.take 3)=vk:=⟨_,rfl⟩;rw[hvk]at hltH hr;simp only[hvk];simp only[Int.reducePow]at hr hltH;have hor:=Tb.or_low (8*3) (c*16777216) vk (by omega) (by simp only[Nat.reduceMul,Int.reducePow];omega) (by omega) hr.1 (by simp only[Nat.reduceMul,Int.reducePow];omega) (by omega);clear hvk
    try simp only[Int.mul_one]at hor
    go_wp2_with fail;go_roundw
    case rel=>exact⟨4,by omega,by go_num,by first|(rw[hltH.out]<;>simp only[Int.mul_one];done)|(rw[hltH.out]<;>simp only[Int.mul_one,hor]),trivial⟩
    case measure=>simp[intOf];omega
   ·obtain⟨c,hc,ht⟩:∃c,bs[4]? =some c∧bs.take 5=bs.take 4++[c]:=⟨bs[4]'(by omega),by simp,by rw[List.take_add_one,List.getElem?_eq_getElem (by omega)];rfl⟩;have hcb:=(hget.out 4 c hc);obtain⟨⟨c0,c1⟩,hcell⟩:=hcb
    try simp only[Nat.add_zero]at hcell
    have hr:=little_range (bs.take 4) fun b hb=>hbyH.out b (List.mem_of_mem_take hb)
    rw[List.length_take,Nat.min_eq_left (by omega)]at hr;have hlt:=little_snoc c (bs.take 4);rw[←ht,List.length_take,Nat.min_eq_left (by omega)]at hlt;have hltH:=Lib.hid hlt;clear ht hlt hc;obtain⟨vk,hvk⟩:∃vk,little (bs.take 4)=vk:=⟨_,rfl⟩;rw[hvk]at hltH hr;simp only[hvk];simp only[Int.reducePow]at hr hltH;have hor:=Tb.or_low (8*4) (c*4294967296) vk (by omega) (by simp only[Nat.reduceMul,Int.reducePow];omega) (by omega) hr.1 (by simp only[Nat.reduceMul,Int.reducePow];omega) (by omega);clear hvk
    try simp only[Int.mul_one]at hor
    go_wp2_with fail;go_roundw
    case rel=>exact⟨5,by omega,by go_num,by first|(rw[hltH.out]<;>simp only[Int.mul_one];done)|(rw[hltH.out]<;>simp only[Int.mul_one,hor]),trivial⟩
    case measure=>simp[intOf];omega
   ·obtain⟨c,hc,ht⟩:∃c,bs[5]? =some c∧bs.take 6=bs.take 5++[c]:=⟨bs[5]'(by omega),by simp,by rw[List.take_add_one,List.getElem?_eq_getElem (by omega)];rfl⟩;have hcb:=(hget.out 5 c hc);obtain⟨⟨c0,c1⟩,hcell⟩:=hcb
    try simp only[Nat.add_zero]at hcell
    have hr:=little_range (bs.take 5) fun b hb=>hbyH.out b (List.mem_of_mem_take hb)
    rw[List.length_take,Nat.min_eq_left (by omega)]at hr;have hlt:=little_snoc c (bs.take 5);rw[←ht,List.length_take,Nat.min_eq_left (by omega)]at hlt;have hltH:=Lib.hid hlt;clear ht hlt hc;obtain⟨vk,hvk⟩:∃vk,little (bs.take 5)=vk:=⟨_,rfl⟩;rw[hvk]at hltH hr;simp only[hvk];simp only[Int.reducePow]at hr hltH;have hor:=Tb.or_low (8*5) (c*1099511627776) vk (by omega) (by simp only[Nat.reduceMul,Int.reducePow];omega) (by omega) hr.1 (by simp only[Nat.reduceMul,Int.reducePow];omega) (by omega);clear hvk
    try simp only[Int.mul_one]at hor
    go_wp2_with fail;go_roundw
    case rel=>exact⟨6,by omega,by go_num,by first|(rw[hltH.out]<;>simp only[Int.mul_one];done)|(rw[hltH.out]<;>simp only[Int.mul_one,hor]),trivial⟩
    case measure=>simp[intOf];omega
   ·obtain⟨c,hc,ht⟩:∃c,bs[6]? =some c∧bs.take 7=bs.take 6++[c]:=⟨bs[6]'(by omega),by simp,by rw[List.take_add_one,List.getElem?_eq_getElem (by omega)];rfl⟩;have hcb:=(hget.out 6 c hc);obtain⟨⟨c0,c1⟩,hcell⟩:=hcb
    try simp only[Nat.add_zero]at hcell
    have hr:=little_range (bs.take 6) fun b hb=>hbyH.out b (List.mem_of_mem_take hb)
    rw[List.length_take,Nat.min_eq_left (by omega)]at hr;have hlt:=little_snoc c (bs.take 6);rw[←ht,List.length_take,Nat.min_eq_left (by omega)]at hlt;have hltH:=Lib.hid hlt;clear ht hlt hc;obtain⟨vk,hvk⟩:∃vk,little (bs.take 6)=vk:=⟨_,rfl⟩;rw[hvk]at hltH hr;simp only[hvk];simp only[Int.reducePow]at hr hltH;have hor:=Tb.or_low (8*6) (c*281474976710656) vk (by omega) (by simp only[Nat.reduceMul,Int.reducePow];omega) (by omega) hr.1 (by simp only[Nat.reduceMul,Int.reducePow];omega) (by omega);clear hvk
    try simp only[Int.mul_one]at hor
    go_wp2_with fail;go_roundw
    case rel=>exact⟨7,by omega,by go_num,by first|(rw[hltH.out]<;>simp only[Int.mul_one];done)|(rw[hltH.out]<;>simp only[Int.mul_one,hor]),trivial⟩
    case measure=>simp[intOf];omega
   ·obtain⟨c,hc,ht⟩:∃c,bs[7]? =some c∧bs.take 8=bs.take 7++[c]:=⟨bs[7]'(by omega),by simp,by rw[List.take_add_one,List.getElem?_eq_getElem (by omega)];rfl⟩;have hcb:=(hget.out 7 c hc);obtain⟨⟨c0,c1⟩,hcell⟩:=hcb
    try simp only[Nat.add_zero]at hcell
    have hr:=little_range (bs.take 7) fun b hb=>hbyH.out b (List.mem_of_mem_take hb)
    rw[List.length_take,Nat.min_eq_left (by omega)]at hr;have hlt:=little_snoc c (bs.take 7);rw[←ht,List.length_take,Nat.min_eq_left (by omega)]at hlt;have hltH:=Lib.hid hlt;clear ht hlt hc;obtain⟨vk,hvk⟩:∃vk,little (bs.take 7)=vk:=⟨_,rfl⟩;rw[hvk]at hltH hr;simp only[hvk];simp only[Int.reducePow]at hr hltH;have hor:=Tb.or_low (8*7) (c*72057594037927936) vk (by omega) (by simp only[Nat.reduceMul,Int.reducePow];omega) (by omega) hr.1 (by simp only[Nat.reduceMul,Int.reducePow];omega) (by omega);clear hvk
    try simp only[Int.mul_one]at hor
    go_wp2_with fail;go_roundw
    case rel=>exact⟨8,by omega,by go_num,by first|(rw[hltH.out]<;>simp only[Int.mul_one];done)|(rw[hltH.out]<;>simp only[Int.mul_one,hor]),trivial⟩
    case measure=>simp[intOf];omega
  ·obtain rfl:k=n:=by omega
   rw[List.take_of_length_le (by omega)];go_wp2_with fail;go_ret2;exact⟨rfl,hmH.out⟩
theorem runL_step {fs:List Ty.Fld} (hg:Ty.Good fs) {j:Nat} (hj:j<fs.length):(Ty.runL (fs.take (j+1))).1=Ty.upI (Ty.runL (fs.take j)).1 (Ty.ali fs[j])+Ty.wid fs[j]∧(Ty.runL (fs.take j)).1≤Ty.upI (Ty.runL (fs.take j)).1 (Ty.ali fs[j])∧1≤Ty.wid fs[j]:=by
 have h4:=Ty.good_of (hg _ (List.getElem_mem hj));refine⟨by rw[Ty.take_snoc fs hj,Ty.runL_snoc];rfl,(Ty.upI_bounds (by omega)).1,h4.2.2.1⟩
theorem runL_mono {fs:List Ty.Fld} (hg:Ty.Good fs) {j:Nat}:∀ {m:Nat},j≤m→m≤fs.length→(Ty.runL (fs.take j)).1≤(Ty.runL (fs.take m)).1
 |0,h,_=>by rw[show j=0 by omega];omega
 |m+1,h,hm=>by
  by_cases e:j=m+1
  ·rw[e];omega
  ·have h1:=runL_mono hg (j:=j) (m:=m) (by omega) (by omega);obtain⟨h2,h3,h4⟩:=runL_step hg (j:=m) (by omega);omega
theorem wid_num {f:Ty.Fld} (h:Ty.errF f=0) (hk:f.1≠6):∃n:Nat,Ty.wid f=n∧wOk n:=by
 have hg:=Ty.good_of h;unfold Ty.wid wOk;by_cases c1:f.1=1
 ·exact⟨1,by rw[if_pos c1];rfl,by omega⟩
 ·by_cases c2:f.1=2
  ·exact⟨2,by rw[if_neg c1,if_pos c2];rfl,by omega⟩
  ·by_cases c3:f.1=3
   ·exact⟨4,by rw[if_neg c1,if_neg c2,if_pos c3];rfl,by omega⟩
   ·exact⟨8,by rw[if_neg c1,if_neg c2,if_neg c3,if_neg hk];rfl,by omega⟩
theorem place_in {t:Ty.Ty} (ht:Ty.TyOk t) {i:Int} (h:Ty.placeE t.1 t.2 i=0) (hk:(placeI t i).2.2≠6):
  ∃(off n:Nat),(placeI t i).1=off∧(placeI t i).2.1=n∧wOk n∧(off:Int)+n≤Ty.sizeT t.1 t.2:=by
 obtain⟨e1,e2,e3,hg,e5,e6,e7⟩:=Ty.errT_zero ht;have he:Ty.errT t.1 t.2=0:=ht;unfold Ty.placeE at h;rw[if_pos he]at h;split at h
 ·rename_i hr;unfold Ty.countT at hr;rw[if_pos he]at hr;unfold placeI at hk⊢;unfold Ty.sizeT;by_cases c:0<t.1
  ·rw[if_pos c]at hr hk⊢;rw[if_pos c];have hl:=e6 c;rw[Ty.hd_eq hl]at hk⊢;obtain⟨n,hn,hw⟩:=wid_num (hg _ (List.getElem_mem (by omega:0<t.2.length))) hk;have hmul:=Int.mul_nonneg hr.1 (show(0:Int)≤Ty.wid (t.2[0]'(by omega)) by omega);refine⟨(i*Ty.wid (t.2[0]'(by omega))).toNat,n,by simp only;omega,hn,hw,?_⟩;generalize Ty.wid (t.2[0]'(by omega))=W at*;have h2:(i+(1:Int))*W≤t.1*W:=Int.mul_le_mul_of_nonneg_right (by omega) (by omega);have h5:(i+(1:Int))*W=i*W+W:=by rw[Int.add_mul,Int.one_mul]
   have h3:=Int.toNat_of_nonneg hmul;omega
  ·rw[if_neg c]at hr hk⊢;rw[if_neg c];obtain⟨n,rfl⟩:=Int.eq_ofNat_of_zero_le hr.1;have hn:n<t.2.length:=by omega
   simp only[Int.toNat_natCast,List.getD_eq_getElem?_getD,List.getElem?_eq_getElem hn,Option.getD_some]at hk⊢;obtain⟨w,hw,hwo⟩:=wid_num (hg _ (List.getElem_mem hn)) hk;obtain⟨r1,r2,r3⟩:=runL_step hg hn;have r4:=Ty.runL_take t.2 hg n (by omega);have r5:=runL_mono hg (j:=n+1) (m:=t.2.length) (by omega) (Nat.le_refl _);rw[List.take_length]at r5;have r6:=(Ty.runL_bounds t.2 hg).2.2.1;have r7:=(Ty.upI_bounds (n:=(Ty.runL t.2).1) r6).1;refine⟨(Ty.upI (Ty.runL (t.2.take n)).1 (Ty.ali t.2[n])).toNat,w,by omega,hw,hwo,?_⟩;unfold Ty.sizeR;omega
 ·cases h
theorem overlay_nil (l:List Int) (o:Nat):overlay l o []=l:=by simp[overlay]
theorem BytesAt.byte {w:World} {v:Value} {bs:List Int} (h:BytesAt w v bs):∀x∈bs,0≤x∧x≤255:=by
 intro x hx;obtain⟨i,hi,rfl⟩:=List.getElem_of_mem hx;rcases h with⟨_,rfl⟩|⟨_,_,_,_,_,_,h4⟩
 ·simp at hi
 ·exact(h4 i hi).1
end Go.Proofs.YteidpgdfocjdbaaGreat
