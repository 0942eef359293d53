/- Joined contracts. No conditions. -/
import Derived.Test.YtgfdeiijblakfaaGreatRows
import Derived.KernelRfl
import Derived.Test.YtgfdeiijblakfaaGreatCS
import Derived.Test.YtgfdeiijblakfaaGreatC09
import Derived.Test.YtgfdeiijblakfaaGreatC29
import Derived.Test.YtgfdeiijblakfaaGreatC31
import Derived.Test.YtgfdeiijblakfaaGreatC32
import Derived.Test.YtgfdeiijblakfaaGreatC33
import Derived.Test.YtgfdeiijblakfaaGreatC37
set_option maxHeartbeats 4000000
set_option maxRecDepth 20000
namespace Go.Proofs.YtgfdeiijblakfaaGreat
open Go Go.RowKit Go.Stg
def NulH (w:World) (q:Option Addr):Prop:=q=none∨∃b,q=some ⟨b,0,none⟩∧w.heap[b]? =some (.cells #[.pointer none,.pointer none,.pointer none,.pointer none,.pointer none,.pointer none,.map none] 63 (0,0))
theorem NulH.mod {w w':World} {q:Option Addr} (h:NulH w q) (hm:Mod [] w w'):NulH w' q:=by
 rcases h with h|⟨b,h1,h2⟩
 ·exact .inl h
 ·exact .inr ⟨b,h1,hm.at h2 (by simp)⟩
section
variable {w:World} {q:Option Addr} (h:NulH w q)
include h
theorem nulh_works:Calls Tryz.prog 19 #[.pointer q] w fun e w'=>e=.returned (.bool false)∧Mod [] w w':=by
 have hnil:∀w,(binOp .neq 58 (.map none) (.map none)).run Tryz.prog w=.ok (.bool false) w:=fun w=>run_neq_map_nil w _ _ _ none Tryz.underlying58
 rcases h with rfl|⟨b,rfl,hb⟩
 ·go_enter Tryz.func19,Tryz.ntmps19;go_wp2;go_ret;exact⟨rfl,Mod.refl _ _⟩
 ·have hcb:=cells_of hb;clear hb;go_enter Tryz.func19,Tryz.ntmps19;go_wp2;go_ret;exact⟨rfl,Mod.refl _ _⟩
theorem nulh_alive (p:Int):Calls Tryz.prog 106 #[.pointer q,.int .i64 p] w fun e w'=>e=.returned (.bool false)∧Mod [] w w':=by
 have hW:=Lib.hid (nulh_works h);clear h;go_enter Tryz.func106,Tryz.ntmps106;go_wp2_with fail;refine hW.out.mono ?_;rintro e w1 ⟨rfl,hm⟩;go_wp2_with fail;go_ret;exact⟨rfl,hm⟩
theorem nulh_act {eb:Nat} {p o1 o2 o3:Int} (he:w.heap[eb]? =some (.cells #[.int .i64 p,.int .i64 o1,.int .u64 o2,.int .u64 o3,.int .i64 0] 76 (0,0))) (f:Value):
  Calls Tryz.prog 58 #[.pointer q,.pointer (some ⟨eb,0,none⟩),f] w fun e w'=>e=.returned (.int .i64 15)∧Mod [] w w':=by
 have hA:=Lib.hid (nulh_alive h p);have hce:=cells_of he;have hfe:=frozen_of he;clear h he;go_enter Tryz.func58,Tryz.ntmps58;go_wp2_with fail;refine hA.out.mono ?_;rintro e w1 ⟨rfl,hm⟩;clear hce hfe;go_wp2_with fail;go_ret;exact⟨rfl,hm⟩
theorem nulh_alloc (p tag d:Int):Calls Tryz.prog 44 #[.pointer q,.int .i64 p,.int .i64 tag,.int .u64 d] w fun e w'=>e=.returned (.tuple #[.int .u64 0,.int .i64 15])∧Mod [] w w':=by
 have hS1:=(((((((Scene.empty w).alloc (.cells #[.pointer q] 23)).alloc (.cells #[.int .i64 p] 3)).alloc (.cells #[.int .i64 tag] 3)).alloc (.cells #[.int .u64 d] 22)).alloc (.cells #[.int .i64 p,.int .i64 1,.int .u64 0,.int .u64 (u64 tag),.int .i64 0] 76)).alloc (.cells #[.pointer (some ⟨w.heap.size+1+1+1+1,0,none⟩)] 137));simp only[size_alloc]at hS1;have hS1:=Lib.hid hS1;have hA:=Lib.hid fun w' hm=> @nulh_act w' q (h.mod hm)
 clear h;have hv:=Lib.hid (cells_of (hS1.out.block 0 rfl));go_enter Tryz.func44,Tryz.ntmps44;go_wp2_with fail;refine(hA.out _ hS1.out.mod (hS1.out.block 1 rfl) _).mono ?_;rintro e w1 ⟨rfl,hm⟩;have hS2:=hS1.out.then hm;have hm2:=Lib.hid hS2.mod;clear hS2 hA hm;go_wp2_with fail;go_ret2;exact⟨rfl,hm2.out⟩
theorem nulh_get (p o i:Int):Calls Tryz.prog 48 #[.pointer q,.int .i64 p,.int .u64 o,.int .i64 i] w fun e w'=>e=.returned (.tuple #[.int .u64 0,.int .i64 15])∧Mod [] w w':=by
 have hS1:=(((((((Scene.empty w).alloc (.cells #[.pointer q] 23)).alloc (.cells #[.int .i64 p] 3)).alloc (.cells #[.int .u64 o] 74)).alloc (.cells #[.int .i64 i] 3)).alloc (.cells #[.int .u64 0] 22)).alloc (.cells #[.int .i64 p,.int .i64 3,.int .u64 o,.int .u64 (u64 i),.int .i64 0] 76));simp only[size_alloc]at hS1;have hS1:=Lib.hid hS1;have hA:=Lib.hid fun w' hm=> @nulh_act w' q (h.mod hm)
 clear h;go_enter Tryz.func48,Tryz.ntmps48;go_wp2_with fail;refine(hA.out _ hS1.out.mod (hS1.out.block 0 rfl) _).mono ?_;rintro e w1 ⟨rfl,hm⟩;have hS2:=hS1.out.then hm;have hc:=cells_of (hS2.block 1 rfl);have hm2:=Lib.hid hS2.mod;clear hS2 hA hm;go_wp2_with fail;go_ret2;exact⟨rfl,hm2.out⟩
theorem nulh_load (p o off n:Int):Calls Tryz.prog 26 #[.pointer q,.int .i64 p,.int .u64 o,.int .i64 off,.int .i64 n] w fun e w'=>e=.returned (.tuple #[.slice none 0 0,.int .i64 15])∧Mod [] w w':=by
 have hS1:=((((((((Scene.empty w).alloc (.cells #[.pointer q] 23)).alloc (.cells #[.int .i64 p] 3)).alloc (.cells #[.int .u64 o] 74)).alloc (.cells #[.int .i64 off] 3)).alloc (.cells #[.int .i64 n] 3)).alloc (.cells #[.slice none 0 0] 81)).alloc (.cells #[.int .i64 p,.int .i64 5,.int .u64 o,.int .u64 (u64 off),.int .i64 0] 76));simp only[size_alloc]at hS1;have hS1:=Lib.hid hS1;have hA:=Lib.hid fun w' hm=> @nulh_act w' q (h.mod hm)
 clear h;go_enter Tryz.func26,Tryz.ntmps26;go_wp2_with fail;refine(hA.out _ hS1.out.mod (hS1.out.block 0 rfl) _).mono ?_;rintro e w1 ⟨rfl,hm⟩;have hS2:=hS1.out.then hm;have hc:=cells_of (hS2.block 1 rfl);have hm2:=Lib.hid hS2.mod;clear hS2 hA hm;go_wp2_with fail;go_ret2;exact⟨rfl,hm2.out⟩
theorem nulh_free (p o:Int):Calls Tryz.prog 46 #[.pointer q,.int .i64 p,.int .u64 o] w fun e w'=>e=.returned (.int .i64 15)∧Mod [] w w':=by
 have hS1:=(((((Scene.empty w).alloc (.cells #[.pointer q] 23)).alloc (.cells #[.int .i64 p] 3)).alloc (.cells #[.int .u64 o] 74)).alloc (.cells #[.int .i64 p,.int .i64 2,.int .u64 o,.int .u64 0,.int .i64 0] 76));simp only[size_alloc]at hS1;have hS1:=Lib.hid hS1;have hA:=Lib.hid fun w' hm=> @nulh_act w' q (h.mod hm)
 clear h;go_enter Tryz.func46,Tryz.ntmps46;go_wp2_with fail;refine(hA.out _ hS1.out.mod (hS1.out.block 0 rfl) _).mono ?_;rintro e w1 ⟨rfl,hm⟩;have hS2:=hS1.out.then hm;have hm2:=Lib.hid hS2.mod;clear hS2 hA hm;go_wp2_with fail;go_ret;exact⟨rfl,hm2.out⟩
theorem nulh_set (p o i v:Int):Calls Tryz.prog 50 #[.pointer q,.int .i64 p,.int .u64 o,.int .i64 i,.int .u64 v] w fun e w'=>e=.returned (.int .i64 15)∧Mod [] w w':=by
 have hS1:=(((((((Scene.empty w).alloc (.cells #[.pointer q] 23)).alloc (.cells #[.int .i64 p] 3)).alloc (.cells #[.int .u64 o] 74)).alloc (.cells #[.int .i64 i] 3)).alloc (.cells #[.int .u64 v] 22)).alloc (.cells #[.int .i64 p,.int .i64 4,.int .u64 o,.int .u64 (u64 i),.int .i64 0] 76));simp only[size_alloc]at hS1;have hS1:=Lib.hid hS1;have hA:=Lib.hid fun w' hm=> @nulh_act w' q (h.mod hm)
 clear h;go_enter Tryz.func50,Tryz.ntmps50;go_wp2_with fail;refine(hA.out _ hS1.out.mod (hS1.out.block 0 rfl) _).mono ?_;rintro e w1 ⟨rfl,hm⟩;have hS2:=hS1.out.then hm;have hm2:=Lib.hid hS2.mod;clear hS2 hA hm;go_wp2_with fail;go_ret;exact⟨rfl,hm2.out⟩
theorem nulh_store (p o off:Int):Calls Tryz.prog 94 #[.pointer q,.int .i64 p,.int .u64 o,.int .i64 off,.slice none 0 0] w fun e w'=>e=.returned (.int .i64 15)∧Mod [] w w':=by
 have hS1:=(((((((Scene.empty w).alloc (.cells #[.pointer q] 23)).alloc (.cells #[.int .i64 p] 3)).alloc (.cells #[.int .u64 o] 74)).alloc (.cells #[.int .i64 off] 3)).alloc (.cells #[.slice none 0 0] 81)).alloc (.cells #[.int .i64 p,.int .i64 6,.int .u64 o,.int .u64 (u64 off),.int .i64 0] 76));simp only[size_alloc]at hS1;have hS1:=Lib.hid hS1;have hA:=Lib.hid fun w' hm=> @nulh_act w' q (h.mod hm)
 clear h;go_enter Tryz.func94,Tryz.ntmps94;go_wp2_with fail;refine(hA.out _ hS1.out.mod (hS1.out.block 0 rfl) _).mono ?_;rintro e w1 ⟨rfl,hm⟩;have hS2:=hS1.out.then hm;have hm2:=Lib.hid hS2.mod;clear hS2 hA hm;go_wp2_with fail;go_ret;exact⟨rfl,hm2.out⟩
theorem nulh_copy (p o t2 sr fr n:Int):Calls Tryz.prog 53 #[.pointer q,.int .i64 p,.int .u64 o,.int .i64 t2,.int .u64 sr,.int .i64 fr,.int .i64 n] w fun e w'=>e=.returned (.int .i64 15)∧Mod [] w w':=by
 have hS1:=(((((((((Scene.empty w).alloc (.cells #[.pointer q] 23)).alloc (.cells #[.int .i64 p] 3)).alloc (.cells #[.int .u64 o] 74)).alloc (.cells #[.int .i64 t2] 3)).alloc (.cells #[.int .u64 sr] 74)).alloc (.cells #[.int .i64 fr] 3)).alloc (.cells #[.int .i64 n] 3)).alloc (.cells #[.int .i64 p,.int .i64 7,.int .u64 o,.int .u64 sr,.int .i64 0] 76));simp only[size_alloc]at hS1;have hS1:=Lib.hid hS1;have hA:=Lib.hid fun w' hm=> @nulh_act w' q (h.mod hm)
 clear h;go_enter Tryz.func53,Tryz.ntmps53;go_wp2_with fail;refine(hA.out _ hS1.out.mod (hS1.out.block 0 rfl) _).mono ?_;rintro e w1 ⟨rfl,hm⟩;have hS2:=hS1.out.then hm;have hm2:=Lib.hid hS2.mod;clear hS2 hA hm;go_wp2_with fail;go_ret;exact⟨rfl,hm2.out⟩
theorem nulh_transfer (p o r:Int):Calls Tryz.prog 54 #[.pointer q,.int .i64 p,.int .u64 o,.int .i64 r] w fun e w'=>e=.returned (.int .i64 15)∧Mod [] w w':=by
 have hS1:=((((((Scene.empty w).alloc (.cells #[.pointer q] 23)).alloc (.cells #[.int .i64 p] 3)).alloc (.cells #[.int .u64 o] 74)).alloc (.cells #[.int .i64 r] 3)).alloc (.cells #[.int .i64 p,.int .i64 8,.int .u64 o,.int .u64 (u64 r),.int .i64 0] 76));simp only[size_alloc]at hS1;have hS1:=Lib.hid hS1;have hA:=Lib.hid fun w' hm=> @nulh_act w' q (h.mod hm)
 clear h;go_enter Tryz.func54,Tryz.ntmps54;go_wp2_with fail;refine(hA.out _ hS1.out.mod (hS1.out.block 0 rfl) _).mono ?_;rintro e w1 ⟨rfl,hm⟩;have hS2:=hS1.out.then hm;have hm2:=Lib.hid hS2.mod;clear hS2 hA hm;go_wp2_with fail;go_ret;exact⟨rfl,hm2.out⟩
theorem nulh_lendl (p o r op acc m:Int):Calls Tryz.prog 100 #[.pointer q,.int .i64 p,.int .u64 o,.int .i64 r,.int .i64 op,.int .i64 acc,.int .i64 m] w fun e w'=>e=.returned (.int .i64 15)∧Mod [] w w':=by
 have hS1:=((((((((Scene.empty w).alloc (.cells #[.pointer q] 23)).alloc (.cells #[.int .i64 p] 3)).alloc (.cells #[.int .u64 o] 74)).alloc (.cells #[.int .i64 r] 3)).alloc (.cells #[.int .i64 acc] 3)).alloc (.cells #[.int .i64 m] 3)).alloc (.cells #[.int .i64 p,.int .i64 op,.int .u64 o,.int .u64 (u64 r),.int .i64 0] 76));simp only[size_alloc]at hS1;have hS1:=Lib.hid hS1;have hA:=Lib.hid fun w' hm=> @nulh_act w' q (h.mod hm)
 clear h;go_enter Tryz.func100,Tryz.ntmps100;go_wp2_with fail;refine(hA.out _ hS1.out.mod (hS1.out.block 0 rfl) _).mono ?_;rintro e w1 ⟨rfl,hm⟩;have hS2:=hS1.out.then hm;have hm2:=Lib.hid hS2.mod;clear hS2 hA hm;go_wp2_with fail;go_ret;exact⟨rfl,hm2.out⟩
theorem nulh_release (p o:Int):Calls Tryz.prog 57 #[.pointer q,.int .i64 p,.int .u64 o] w fun e w'=>e=.returned (.int .i64 15)∧Mod [] w w':=by
 have hS1:=(((((Scene.empty w).alloc (.cells #[.pointer q] 23)).alloc (.cells #[.int .i64 p] 3)).alloc (.cells #[.int .u64 o] 74)).alloc (.cells #[.int .i64 p,.int .i64 11,.int .u64 o,.int .u64 0,.int .i64 0] 76));simp only[size_alloc]at hS1;have hS1:=Lib.hid hS1;have hA:=Lib.hid fun w' hm=> @nulh_act w' q (h.mod hm)
 clear h;go_enter Tryz.func57,Tryz.ntmps57;go_wp2_with fail;refine(hA.out _ hS1.out.mod (hS1.out.block 0 rfl) _).mono ?_;rintro e w1 ⟨rfl,hm⟩;have hS2:=hS1.out.then hm;have hm2:=Lib.hid hS2.mod;clear hS2 hA hm;go_wp2_with fail;go_ret;exact⟨rfl,hm2.out⟩
theorem nulh_share (p o r:Int):Calls Tryz.prog 55 #[.pointer q,.int .i64 p,.int .u64 o,.int .i64 r] w fun e w'=>e=.returned (.int .i64 15)∧Mod [] w w':=by
 have hL:=Lib.hid (nulh_lendl h);clear h;go_enter Tryz.func55,Tryz.ntmps55;go_wp2_with fail;refine(hL.out _ _ _ _ _ _).mono ?_;rintro e w1 ⟨rfl,hm⟩;go_wp2_with fail;go_ret;exact⟨rfl,hm⟩
theorem nulh_lend (p o r:Int):Calls Tryz.prog 56 #[.pointer q,.int .i64 p,.int .u64 o,.int .i64 r] w fun e w'=>e=.returned (.int .i64 15)∧Mod [] w w':=by
 have hL:=Lib.hid (nulh_lendl h);clear h;go_enter Tryz.func56,Tryz.ntmps56;go_wp2_with fail;refine(hL.out _ _ _ _ _ _).mono ?_;rintro e w1 ⟨rfl,hm⟩;go_wp2_with fail;go_ret;exact⟨rfl,hm⟩
end
end Go.Proofs.YtgfdeiijblakfaaGreat
namespace Go.Proofs.YtgfdeiijblakfaaGreat
open Go Go.RowKit Go.Stg
theorem append_ev {lb:Nat} {cap:Int} {evs:List Ev} {miss:List Int} {w:World} {f:List Nat} (h:(logC lb cap evs miss).on w f) {e:Ev} (he:e.ok) (hc:e.counts=false) (hn:evs.length≤100000):
  Calls Tryz.prog 23 #[.pointer (some ⟨lb,0,none⟩),.agg #[.int .i64 e.p,.int .i64 e.op,.int .u64 e.h,.int .u64 e.arg,.int .i64 e.err]] w (Takes (logC lb cap (evs++[e]) miss) (.int .i64 0) w f):=by
 have:=logappend_ok h he hn;have e1:appE cap evs e=0:=by unfold appE;rw[if_neg (by simp[hc])]
 have e2:appL cap evs e=evs++[e]:=by unfold appL;rw[if_neg (by simp[hc])]
 rw[e1,e2]at this;exact this
theorem start_op {F:List Nat} {W w:World} {cs:List Comp} {a:HA} {c:HC} {k:Nat} {s:HS} (hI:HInv c k s) (hk:k≤900) {p:Int} (hS:Scene F W (hpA a c s::cs) w):
  Calls Tryz.prog 7 #[.pointer (some ⟨a.hb,0,none⟩),.int .i64 p] w fun e w'=>e=.returned (.int .i64 (startD s p).1)∧Scene F W (hpA a c (startD s p).2::cs) w':=by
 obtain⟨B,hB,hS0⟩:=hp_open hS;have hel:=hI.evk;have hwk:=Lib.hid fun w' (hm:Mod [] w w')=>works_ok (hm.at (hS0.block 0 rfl) (by simp))
 have hir:=Lib.hid fun w'=>inrange_ok p 1 64 w'
 by_cases hr:1≤p∧p≤64
 ·have hr1:(decide (1≤p)&&decide (p≤64))=true:=by simp[hr.1,hr.2]
  rw[hr1]at hir;have hrs:∀x y:Int×HS,(if p<1∨64<p then x else y)=y:=fun x y=>if_neg (by omega)
  unfold startD;rw[hrs];have hrH:=Lib.hid hr;by_cases hst:s.st p=0
  ·rw[if_neg (by simp[hst])];have hBH:=Lib.hid hB;have hstH:=Lib.hid hst;have hS1:=Lib.hid hS0;clear hS hS0 hB hr hr1 hrs;have hd1:decide (s.st p≠0)=false:=by simp[hst]
   have hdH:=Lib.hid hd1;clear hd1 hst;go_enter Tryz.func7,Tryz.ntmps7;go_wp2_with fail;refine(hir.out _).mono ?_;rintro e w1 ⟨rfl,hm1⟩;have hm1H:=Lib.hid hm1;clear hm1 hir;go_wp2_with fail;refine(hwk.out _ hm1H.out).mono ?_;rintro e w2 ⟨rfl,hm2⟩;have hS2:=Lib.hid (hS1.out.then (hm1H.out.nil_then hm2));have c1:=cells_of (hS2.out.block 0 rfl);obtain⟨fs,hs2,hput⟩:=hS2.out.part 7 rfl;have hlk:=hs2.1.look2 p;rw[hdH.out]at hlk;obtain⟨w3,hup,hst3,hm3⟩:=hs2.1.put p true;have hfs:=hs2.2;subst hfs;have hS3:=Lib.hid (hput w3 [a.sm] (stC a.sm (setI s.st p 1)) ⟨hst3,rfl⟩ hm3 (fun x hx=>.inl hx));have c2:=cells_of (hS3.out.block 0 rfl);clear hm2 hwk hm1H hS1 hS2 hs2 hput hst3 hm3;go_wp2_with fail;obtain⟨fl,hl,hput⟩:=hS3.out.part 6 rfl;refine(append_ev hl (e:=⟨p,32,0,0,0⟩) ⟨hrH.out,.inr (.inl rfl),by simp only;omega,by simp only;omega,by simp only;omega⟩ rfl (by omega)).mono ?_;rintro e w4 ⟨f',rfl,q1,q2,q3⟩;have hS4:=Lib.hid (hput w4 f' _ q1 q2 q3);clear hl hput q1 q2 q3 hS3 c1 c2 hlk hup;go_wp2_with fail;go_ret;exact⟨rfl,hp_close (s':={s with st:=setI s.st p 1,evs:=s.evs++[⟨p,32,0,0,0⟩]}) rfl (fun _=>rfl) hBH.out hS4.out⟩
  ·rw[if_pos hst];have hd1:decide (s.st p≠0)=true:=by simp[hst]
   have hdH:=Lib.hid hd1;have hBH:=Lib.hid hB;have hS1:=Lib.hid hS0;clear hS hS0 hB hr hr1 hrs hd1 hst hel;go_enter Tryz.func7,Tryz.ntmps7;go_wp2_with fail;refine(hir.out _).mono ?_;rintro e w1 ⟨rfl,hm1⟩;have hm1H:=Lib.hid hm1;clear hm1 hir;go_wp2_with fail;refine(hwk.out _ hm1H.out).mono ?_;rintro e w2 ⟨rfl,hm2⟩;have hS2:=Lib.hid (hS1.out.then (hm1H.out.nil_then hm2));have c1:=cells_of (hS2.out.block 0 rfl);have hlk:=(scene_st 7 hS2.out rfl).look2 p;rw[hdH.out]at hlk;clear hm2 hwk hm1H hS1;go_wp2_with fail;go_ret;exact⟨rfl,hp_shut hBH.out hS2.out⟩
 ·have hr1:(decide (1≤p)&&decide (p≤64))=false:=by
   rw[Bool.and_eq_false_iff];simp only[decide_eq_false_iff_not];omega
  rw[hr1]at hir;have hrs:∀x y:Int×HS,(if p<1∨64<p then x else y)=x:=fun x y=>if_pos (by omega)
  unfold startD;rw[hrs];have hSH:=Lib.hid hS;clear hS hS0 hB hr hr1 hrs hwk hel;go_enter Tryz.func7,Tryz.ntmps7;go_wp2_with fail;refine(hir.out _).mono ?_;rintro e w1 ⟨rfl,hm1⟩;have hm1H:=Lib.hid hm1;clear hm1 hir;go_wp2_with fail;go_ret;exact⟨rfl,hSH.out.then hm1H.out⟩
end Go.Proofs.YtgfdeiijblakfaaGreat
namespace Go.Proofs.YtgfdeiijblakfaaGreat
open Go
def initW0:List Char:=[Char.ofNat 104,Char.ofNat 97,Char.ofNat 114,Char.ofNat 110,Char.ofNat 101,Char.ofNat 115,Char.ofNat 115]
def initW1:List Char:=[Char.ofNat 99,Char.ofNat 55,Char.ofNat 48,Char.ofNat 100,Char.ofNat 49,Char.ofNat 51,Char.ofNat 52,Char.ofNat 50,Char.ofNat 99,Char.ofNat 98,Char.ofNat 54,Char.ofNat 48,Char.ofNat 52,Char.ofNat 102,Char.ofNat 53,Char.ofNat 52,Char.ofNat 51,Char.ofNat 55,Char.ofNat 55,Char.ofNat 57,Char.ofNat 97,Char.ofNat 57,Char.ofNat 55,Char.ofNat 55,Char.ofNat 97,Char.ofNat 54,Char.ofNat 99,Char.ofNat 50,Char.ofNat 97,Char.ofNat 57,Char.ofNat 102,Char.ofNat 53,Char.ofNat 57,Char.ofNat 100,Char.ofNat 51,Char.ofNat 50,Char.ofNat 49,Char.ofNat 48,Char.ofNat 99,Char.ofNat 57,Char.ofNat 50,Char.ofNat 54,Char.ofNat 98,Char.ofNat 56,Char.ofNat 102,Char.ofNat 99,Char.ofNat 55,Char.ofNat 54,Char.ofNat 100,Char.ofNat 99,Char.ofNat 98,Char.ofNat 102,Char.ofNat 48,Char.ofNat 99,Char.ofNat 56,Char.ofNat 48,Char.ofNat 54,Char.ofNat 101,Char.ofNat 56,Char.ofNat 52,Char.ofNat 51,Char.ofNat 49,Char.ofNat 100,Char.ofNat 51]
def initW2:List Char:=[Char.ofNat 99,Char.ofNat 117,Char.ofNat 116]
def initR0:List Char:=[Char.ofNat 97,Char.ofNat 116,Char.ofNat 32,Char.ofNat 112,Char.ofNat 108,Char.ofNat 117,Char.ofNat 103,Char.ofNat 105,Char.ofNat 110,Char.ofNat 104,Char.ofNat 111,Char.ofNat 115,Char.ofNat 116,Char.ofNat 47,Char.ofNat 112,Char.ofNat 108,Char.ofNat 117,Char.ofNat 103,Char.ofNat 105,Char.ofNat 110,Char.ofNat 104,Char.ofNat 111,Char.ofNat 115,Char.ofNat 116,Char.ofNat 108,Char.ofNat 97,Char.ofNat 119,Char.ofNat 50,Char.ofNat 52,Char.ofNat 46,Char.ofNat 72,Char.ofNat 111,Char.ofNat 115,Char.ofNat 116,Char.ofNat 99,Char.ofNat 97,Char.ofNat 108,Char.ofNat 108,Char.ofNat 87,Char.ofNat 111,Char.ofNat 114,Char.ofNat 100,Char.ofNat 115,Char.ofNat 32,Char.ofNat 112,Char.ofNat 108,Char.ofNat 117,Char.ofNat 103,Char.ofNat 105,Char.ofNat 110,Char.ofNat 104,Char.ofNat 111,Char.ofNat 115,Char.ofNat 116,Char.ofNat 47,Char.ofNat 112,Char.ofNat 108,Char.ofNat 117,Char.ofNat 103,Char.ofNat 105]
def initR1:List Char:=[Char.ofNat 110,Char.ofNat 104,Char.ofNat 111,Char.ofNat 115,Char.ofNat 116,Char.ofNat 108,Char.ofNat 97,Char.ofNat 119,Char.ofNat 50,Char.ofNat 52,Char.ofNat 46,Char.ofNat 72,Char.ofNat 111,Char.ofNat 115,Char.ofNat 116,Char.ofNat 99,Char.ofNat 97,Char.ofNat 108,Char.ofNat 108,Char.ofNat 78,Char.ofNat 111,Char.ofNat 110,Char.ofNat 101]
def initR:List Char:=initR0++(initR1)
def initL:List Char:=initW0++Char.ofNat 32::(initW1++Char.ofNat 32::(initW2++Char.ofNat 32::initR))
theorem init_eq:Tryz.prog.initOrder=String.ofList initL:=by kernel_rfl
theorem init_list:Tryz.prog.initOrder.toList=initL:=by rw[init_eq,String.toList_ofList]
theorem words_word:∀(w r:List Char),(∀c∈w,c≠Char.ofNat 32)→wordsSigns (w++Char.ofNat 32::r)=w::wordsSigns r
 | [],r,_=>rfl
 |c::w,r,h=>by
  have ih:=words_word w r fun x hx=>h x (List.mem_cons_of_mem _ hx)
  rw[List.cons_append,wordsSigns,ih];exact h c (by simp)
theorem init_words:wordsSigns Tryz.prog.initOrder.toList=initW0::initW1::initW2::wordsSigns initR:=by
 rw[init_list];unfold initL;rw[words_word _ _ (by decide),words_word _ _ (by decide),words_word _ _ (by decide)]
theorem init_behind:behindMainWord (wordsSigns Tryz.prog.initOrder.toList)=initW2::wordsSigns initR:=by
 rw[init_words];generalize wordsSigns initR=X;kernel_rfl
theorem init_strip (X:List (List Char)):stripLifts liftWords (initW2::X)=([],initW2::X):=by kernel_rfl
theorem init_later:Tryz.prog.laysLater=false:=by
 unfold Program.laysLater;rw[←Array.any_toList];kernel_rfl
theorem init_reflect:Tryz.prog.bearsReflect=false:=by kernel_rfl
theorem init_door:Tryz.prog.doorFits []=true:=by kernel_rfl
theorem init_gc:(initW2== "gc".toList)=false:=by kernel_rfl
theorem init_spec:(initW2== "spec".toList)=false:=by kernel_rfl
theorem init_carried:(initW2== "carried".toList)=false:=by kernel_rfl
theorem init_cut:(initW2== "cut".toList)=true:=by kernel_rfl
theorem init_cut2:(some initW2==some "cut".toList)=true:=by kernel_rfl
theorem init_carried2:(some initW2==some "carried".toList)=false:=by kernel_rfl
theorem enter_of (P:Program) {w:List Char} {X:List (List Char)} (h:behindMainWord (wordsSigns P.initOrder.toList)=w::X) (hs:stripLifts liftWords (w::X)=([],w::X)) (h1:P.laysLater=false) (h2:P.bearsReflect=false) (h3:P.doorFits []=true)
  (g1:(w== "gc".toList)=false) (g2:(w== "spec".toList)=false) (g3:(w== "carried".toList)=false) (g4:(some w==some "cut".toList)=true):P.mayEnter=true:=by
 unfold Program.mayEnter;rw[h];simp only[hs,h1,h2,h3,g1,g2,g3,g4,List.head?_cons];rfl
theorem lifts_of (P:Program) {w:List Char} {X:List (List Char)} (h:behindMainWord (wordsSigns P.initOrder.toList)=w::X) (hs:stripLifts liftWords (w::X)=([],w::X)):P.headLifts=[]:=by
 unfold Program.headLifts;rw[h];simp only[hs];split<;>rfl
theorem final_of (P:Program) {w:List Char} {X:List (List Char)} (h:behindMainWord (wordsSigns P.initOrder.toList)=w::X) (hl:P.headLifts=[]) (g:(some w==some "carried".toList)=false):P.liftsFinal=false:=by
 unfold Program.liftsFinal;rw[h,hl];simp only[List.head?_cons,g];rfl
theorem make_of (P:Program) {w:List Char} {X:List (List Char)} (h:behindMainWord (wordsSigns P.initOrder.toList)=w::X) (g1:(w== "gc".toList)=false) (g2:(w== "spec".toList)=false) (g3:(w== "cut".toList)=true):P.make=some .cut:=by
 unfold Program.make;rw[h];simp only[g1,g2,g3];rfl
theorem init_enter:Tryz.prog.mayEnter=true:=enter_of Tryz.prog init_behind (init_strip _) init_later init_reflect init_door init_gc init_spec init_carried init_cut2
theorem init_lifts:Tryz.prog.headLifts=[]:=lifts_of Tryz.prog init_behind (init_strip _)
theorem init_final:Tryz.prog.liftsFinal=false:=final_of Tryz.prog init_behind init_lifts init_carried2
theorem init_make:Tryz.prog.make=some .cut:=make_of Tryz.prog init_behind init_gc init_spec init_cut
end Go.Proofs.YtgfdeiijblakfaaGreat
namespace Go.Proofs.YtgfdeiijblakfaaGreat
open Go Go.RowKit Go.Stg
open Ty (FieldsAt fcells)
section
variable {F:List Nat} {W w:World} {cs:List Comp} {a:HA} {c:HC} {s:HS}
theorem hdefine_ok (hS:Scene F W (hpA a c s::cs) w) (len:Int) (v:Value) (fs:List Ty.Fld) (hF:FieldsAt w v fs) (hn: -9223372036854775808≤len) (hn2:len≤9223372036854775807):
  Calls Tryz.prog 6 #[.pointer (some ⟨a.hb,0,none⟩),.agg #[.int .i64 len,v]] w fun e w'=>e=.returned (.tuple #[.int .i64 (Ty.regTag s.R (len,fs)),.int .i64 (Ty.regErr s.R (len,fs))])∧Scene F W (hpA a c (defS s (len,fs))::cs) w':=by
 obtain⟨va,vl,vc,rfl⟩:=Ty.FieldsAt.slice hF;obtain⟨B,hB,hS0⟩:=hp_open hS;have hBH:=Lib.hid hB;have hFH:=Lib.hid hF;have hwk:=Lib.hid fun w' (hm:Mod [] w w')=>works_ok (hm.at (hS0.block 0 rfl) (by simp))
 have hm0:=Lib.hid ((Mod.refl [] w).alloc (.cells #[.int .i64 len,.slice va vl vc] 38));have hS1:=Lib.hid ((hS0.alloc (.cells #[.int .i64 len,.slice va vl vc] 38)));have hnH:=Lib.hid (And.intro hn hn2);clear hS hS0 hB hF hn hn2;go_enter Tryz.func6,Tryz.ntmps6;go_wp2_with fail;refine(hwk.out _ hm0.out).mono ?_;rintro e w1 ⟨rfl,hm⟩;have hS2:=Lib.hid (hS1.out.then hm);have hm1:=Lib.hid (hm0.out.nil_then hm);clear hwk hS1 hm0 hm;go_wp2_with fail;generalize w.heap.size=bx at*;obtain⟨fa,hl,hput,hne⟩:=hS2.out.takePart 3 rfl;have k1:=GW.cells (S:=fa) (hS2.out.block 1 rfl) (hne 1 _ _ rfl);have k2:=GW.cells (S:=fa) (hS2.out.block 0 rfl) (hne 0 _ _ rfl);have hlH:=Lib.hid fun w' (hm:Mod [] w1 w')=>Ty.register_ok (hl w' hm) len (.slice va vl vc) fs ((hFH.out.mod hm1.out).mod hm) hnH.out.1 hnH.out.2
 have hputH:=Lib.hid hput;clear hl hput hne;refine wp_region_part fa (by kernel_rfl) (by kernel_rfl) ?_;refine stage_quiet 5 (by kernel_rfl) ?_;simp only[tA,tB,tC,tD];(repeat go_big_quiet_step (fail));refine wpQuiet_nil ?_;refine stage_takes 21 #[.pointer (some ⟨a.rt,0,none⟩),.agg #[.int .i64 len,.slice va vl vc]] (.tuple #[.int .i64 (Ty.regTag s.R (len,fs)),.int .i64 (Ty.regErr s.R (len,fs))]) rfl Tryz.call21 rfl rfl hlH.out ?_;simp only[Act.put,sA,sB,sC];refine stage_quiet 4 (by kernel_rfl) ?_;simp only[tA,tB,tC,tD];(repeat go_big_quiet_step (fail));refine wpQuiet_nil ?_;refine stage_nil fun w2 hw2=> ?_
 have hS3:=Lib.hid (hputH.out w2 _ hw2);clear k1 k2 hlH hputH hw2 hS2;go_wp2_with fail;go_ret2;refine⟨rfl,?_⟩;exact hp_shut (s:=defS s (len,fs)) (B:=B) hBH.out (hS3.out.erase 0)
def useH (c:HC) (s:HS) (p:Int):Array Value:=#[.int .i64 (hasH c s p).b,.int .i64 (hasH c s p).o,.int .i64 (hasH c s p).r,.int .i64 (recs s.evs p),.int .i64 (missN s.miss p)]
end
end Go.Proofs.YtgfdeiijblakfaaGreat
