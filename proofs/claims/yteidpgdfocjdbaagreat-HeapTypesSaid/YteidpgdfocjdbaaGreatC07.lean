/- Joined contracts. No conditions. -/
import Derived.Test.YteidpgdfocjdbaaGreatProg
import Derived.StillTailTactics
import Derived.WalkSpells
import Derived.Test.YteidpgdfocjdbaaGreatCS
import Derived.Test.YteidpgdfocjdbaaGreatC01
import Derived.Test.YteidpgdfocjdbaaGreatC06
set_option maxHeartbeats 4000000
set_option maxRecDepth 10000
namespace Go.Proofs.YteidpgdfocjdbaaGreat.Tb
open Go Go.RowKit Go.Stg
theorem info_entry:(Tryz.prog.info? 119).map (fun i=>(i.zero,i.size,i.bytes))=some (some (entV ent0),5,40):=by kernel_rfl
theorem make_entries (n:Nat) (hn:n≤4096) (w:World):
  ∃w',(Instr.makeSlice 151 (.int .i64 n) (.int .i64 n)).run Tryz.prog w=.ok (.slice (some ⟨w.heap.size,0,none⟩) n n) w'∧w'.ownsRow w.heap.size 119 5 (.slice (some ⟨w.heap.size,0,none⟩) n n) n (flat ent (List.replicate n ent0))∧Mod [] w w':=by
 obtain⟨i0,hi,hz0,hz1,hz2⟩:=info_parts info_entry;obtain⟨w',h1,h2,h3⟩:=run_makeSlice_full (P:=Tryz.prog) w w.heap.size 151 119 i0 (entV ent0) 5 Tryz.underlying151 hi hz0 hz1 .i64 .i64 n (by omega) (by rw[hz2];omega) (by unfold maxLen;omega) (Nat.le_refl _);rw[made_flat ent_length (by omega) ent0 (entV ent0).cells rfl]at h2;exact⟨w',h1,h2,(Mod.refl [] w).grown h3 (by simp)⟩
def start (n:Nat):TS:=⟨⟨fresh n,upTo n,0⟩,List.replicate n ent0⟩
theorem TInv.start (n:Nat) (first:Int):TInv n first (start n):=by
 refine⟨GInv.start n first,by simp[Go.Proofs.YteidpgdfocjdbaaGreat.Tb.start],fun j hj hl=> ?_⟩;have:slotN (fresh n) j=(0,false):=by rw[slotN_at (by rw[fresh_length];exact hj)];simp[fresh]
 simp only[Go.Proofs.YteidpgdfocjdbaaGreat.Tb.start]at hl;rw[this]at hl;cases hl
section
variable (n:Nat) (first:Int) (hn:n≤4096) (hf1:1≤first) (hf2:first≤4294967295)
include hn hf1 hf2
theorem tnew_ok {F:List Nat} {W w:World} {cs:List Comp} (hS:Scene F W cs w):Calls Tryz.prog 24 #[.int .i64 n,.int .i64 first] w fun e w'=>∃tb ev b pb sl,e=.returned (.tuple #[.pointer (some ⟨tb,0,none⟩),.int .i64 0])∧Scene F W (tabC tb ev b pb sl first (start n)::cs) w':=by
 have hM:=Lib.hid (make_entries n hn);have hN:=Lib.hid (new_ok n first hn hf1 hf2 w);go_enter Tryz.func24,Tryz.ntmps24;go_wp2_with fail;refine hN.out.mono ?_;rintro e w1 ⟨b,pb,sl,psv,rfl,hm1,hG1,hfo1⟩;obtain⟨w2,hr2,hrow2,hm2⟩:=hM.out w1;have hS1:Scene [] w [genC b pb sl first ⟨fresh n,upTo n,0⟩] w1:=(Scene.empty w).add hm1 ⟨psv,hG1,rfl⟩ hfo1;have hS2:Scene [] w [rowC (.slice (some ⟨w1.heap.size,0,none⟩) n n) n 119 5 (flat ent (List.replicate n ent0)),genC b pb sl first ⟨fresh n,upTo n,0⟩] w2:=
  hS1.add (c:=rowC (.slice (some ⟨w1.heap.size,0,none⟩) n n) n 119 5 (flat ent (List.replicate n ent0))) hm2 ⟨row_base hrow2 (Nat.zero_le _),rfl⟩ (fun x hx=>by simp[Value.ownBlock]at hx;omega)
 have hS3:=Lib.hid (hS2.alloc (.cells #[.pointer (some ⟨b,0,none⟩),.slice (some ⟨w1.heap.size,0,none⟩) n n] 153 (0,0)));clear hm1 hG1 hfo1 hS1 hS2 hrow2 hm2 hN hM;go_wp2_with fail;go_ret2;obtain⟨f',q1,q2,q3⟩:=hS3.out.done;have hA:Agree (start n) (List.replicate n ent0):=⟨rfl,fun _ _=>rfl⟩;have hon:(tabC w2.heap.size (.slice (some ⟨w1.heap.size,0,none⟩) n n) b pb sl first (start n)).on _ f':=⟨List.replicate n ent0,hA,by unfold tabP;rw[List.length_replicate];exact q1⟩;exact⟨w2.heap.size,.slice (some ⟨w1.heap.size,0,none⟩) n n,b,pb,sl,rfl,hS.add q2 hon (fun x hx=>(q3 x hx).resolve_left (by simp))⟩
end
end Go.Proofs.YteidpgdfocjdbaaGreat.Tb
namespace Go.Proofs.YteidpgdfocjdbaaGreat.Tb
open Go Go.RowKit Go.Stg
theorem resV_bad {x:TS} {h e:Int} (he:resE x h=e) (h0:e≠0):resV x h=.tuple #[.agg #[.int .u64 0,.int .i64 0,.int .i64 0,.int .i64 0,.int .i64 0],.int .i64 e]:=by
 unfold resV resN;rw[he,if_neg h0];rfl
end Go.Proofs.YteidpgdfocjdbaaGreat.Tb
namespace Go.Proofs.YteidpgdfocjdbaaGreat.Tb
open Go Go.RowKit Go.Stg
theorem cellsE (w:World) (l:List Value) (T:TypeId) (cs:Array Value) (hc:cs.toList=l):∀j u,l[j]? =some u→(w.alloc (.cells cs T)).cell? ((⟨w.heap.size,0,none⟩:Addr).add j)=some u:=by
 intro j u hu;rw[add_at,Nat.zero_add,cells_of (at_alloc w (.cells cs T))];rw[←hc,Array.getElem?_toList]at hu;exact hu
def liveL (x:TS) (k:Nat):List Ent:=(List.range k).filterMap fun i=>if(slotN x.g.S i).2 then some (entN x.E i)else none
section
variable {F:List Nat} {W w:World} {cs:List Comp} {n:Nat} {first:Int} {x:TS} (i:Nat) (h:Scene F W cs w) {tb b pb:Nat} {ev sl:Value} (hi:cs[i]? =some (tabC tb ev b pb sl first x))
include h hi
theorem sc_tpool:Calls Tryz.prog 82 #[.pointer (some ⟨tb,0,none⟩)] w fun e w'=>∃v,e=.returned v∧Mod [] w w'∧IntsAt w' v x.g.F:=by
 obtain⟨f,⟨E,hA,hH⟩,_⟩:=h.part i hi;have hS:=Scene.start hH;obtain⟨psv,hG⟩:=sc_gen 2 hS rfl;have hT:=Lib.hid (tlive_ok (hS.block 0 rfl));have hGH:=Lib.hid hG;clear hA hH hS hG h hi;go_enter Tryz.func82,Tryz.ntmps82;go_wp2_with fail;refine hT.out.mono ?_;rintro e w1 ⟨rfl,hm1⟩;go_wp2_with fail;refine(pool_ok (hGH.out.mod hm1 (by simp))).mono ?_;rintro e w2 ⟨v,rfl,hm2,hi2⟩;obtain⟨va,vl,vc,rfl⟩:∃a l c,v=.slice a l c:=by
  rcases hi2 with⟨rfl,_⟩|⟨_,_,_,rfl,_⟩<;>exact⟨_,_,_,rfl⟩
 go_wp2_with fail;go_ret;exact⟨_,rfl,hm1.nil_then hm2,hi2⟩
theorem sc_tfull:Calls Tryz.prog 41 #[.pointer (some ⟨tb,0,none⟩)] w fun e w'=>e=.returned (.bool (decide (x.g.F.length=0)))∧Mod [] w w':=by
 have hP:=Lib.hid (sc_tpool i h hi);clear h hi;obtain⟨q,hq⟩:∃q,decide (x.g.F.length=0)=q:=⟨_,rfl⟩;rw[hq];have hqH:=Lib.hid hq;clear hq;go_enter Tryz.func41,Tryz.ntmps41;go_wp2_with fail;refine hP.out.mono ?_;rintro e w1 ⟨v,rfl,hm1,hi1⟩;have hln:=fun ty w=>hi1.len ty w
 clear hi1;by_cases hz:x.g.F.length=0
 ·have hq:=hqH.out;rw[hz]at hln hq;simp only[decide_true]at hq;subst hq;go_wp2_with fail;go_ret;exact⟨rfl,hm1⟩
 ·have hz2:((x.g.F.length:Int)==0)=false:=by simp only[beq_eq_false_iff_ne];omega
  have hq:=hqH.out;simp only[hz,decide_false]at hq;subst hq;clear hz;go_wp2_with fail;go_ret;exact⟨rfl,hm1⟩
end
end Go.Proofs.YteidpgdfocjdbaaGreat.Tb
namespace Go.Proofs.YteidpgdfocjdbaaGreat.Ty
open Go Go.RowKit Go.Stg
abbrev Fld:=Int×Int
def wid (f:Fld):Int:=if f.1=1 then 1 else if f.1=2 then 2 else if f.1=3 then 4 else if f.1=6 then f.2 else 8
def ali (f:Fld):Int:=if f.1=6 then 1 else wid f
def errF (f:Fld):Int:=if f.1<1∨6<f.1 then 8 else if(f.1=6∧f.2<1)∨(f.1≠6∧f.2≠0)then 3 else if 65536<f.2 then 4 else 0
def upI (n k:Int):Int:=(n+k-1)/k*k
theorem good_of {f:Fld} (h:errF f=0):1≤f.1∧f.1≤6∧1≤wid f∧wid f≤65536∧(ali f=1∨ali f=2∨ali f=4∨ali f=8):=by
 unfold errF at h;split at h
 ·simp at h
 ·rename_i h1;split at h
  ·simp at h
  ·rename_i h2;split at h
   ·simp at h
   ·rename_i h3;unfold ali wid
    repeat' split
    all_goals omega
theorem upI_bounds {n k:Int} (hk:1≤k):n≤upI n k∧upI n k<n+k∧upI n k%k=0:=by
 unfold upI;have h1:=Int.mul_ediv_add_emod (n+k-1) k;have h2:=Int.emod_nonneg (n+k-1) (show k≠0 by omega);have h3:=Int.emod_lt_of_pos (n+k-1) (show 0<k by omega);rw[Int.mul_comm]at h1;refine⟨by omega,by omega,Int.mul_emod_left _ _⟩
def fv (f:Fld):Value:=.agg #[.int .i64 f.1,.int .i64 f.2]
theorem width_ok (k c:Int) (w:World):Calls Tryz.prog 108 #[.agg #[.int .i64 k,.int .i64 c]] w fun e w'=>e=.returned (.int .i64 (wid (k,c)))∧Mod [] w w':=by
 go_enter Tryz.func108,Tryz.ntmps108;go_wp2
 all_goals go_ret
 all_goals refine⟨?_,(Mod.refl _ _).alloc _⟩
 all_goals simp_all [wid]
theorem rwidth_ok (k c:Int) (hk:1≤k) (hk6:k≤6) (w:World):Calls Tryz.prog 45 #[.agg #[.int .i64 k,.int .i64 c]] w fun e w'=>e=.returned (.tuple #[.int .i64 (wid (k,c)),.int .i64 (ali (k,c))])∧Mod [] w w':=by
 go_enter Tryz.func45,Tryz.ntmps45;go_wp2
 all_goals go_ret2
 all_goals refine⟨?_,(Mod.refl _ _).alloc _⟩
 all_goals simp_all [wid,ali]
 all_goals (have:k=6:=by omega);subst this;simp
theorem ali_ok (k c:Int) (w:World):Calls Tryz.prog 136 #[.agg #[.int .i64 k,.int .i64 c]] w fun e w'=>e=.returned (.int .i64 (ali (k,c)))∧Mod [] w w':=by
 go_enter Tryz.func136,Tryz.ntmps136;go_wp2_with (go_at_call 108;refine(width_ok _ _ _).mono ?_;rintro e w1 ⟨rfl,hm⟩)
 ·go_ret;refine⟨?_,(Mod.refl _ _).alloc _⟩;simp_all [ali]
 ·go_ret;refine⟨?_,((Mod.refl _ _).alloc _).nil_then hm⟩;simp_all [ali]
theorem up_okUp (n k:Int) (hn:0≤n) (hn2:n≤100000000) (hk:1≤k) (hk2:k≤8) (w:World):Calls Tryz.prog 137 #[.int .i64 n,.int .i64 k] w fun e w'=>e=.returned (.int .i64 (upI n k))∧Mod [] w w':=by
 have hu:=upI_bounds (n:=n) hk;unfold upI at hu;have hw:wrap64 ((n+k-1)/k*k)=(n+k-1)/k*k:=by
  generalize(n+k-1)/k*k=z at*;unfold wrap64;omega
 go_enter Tryz.func137,Tryz.ntmps137;go_wp2;go_ret;refine⟨?_,Mod.refl _ _⟩;simp[upI]
theorem up_okRUp (n k:Int) (hn:0≤n) (hn2:n≤100000000) (hk:1≤k) (hk2:k≤8) (w:World):Calls Tryz.prog 89 #[.int .i64 n,.int .i64 k] w fun e w'=>e=.returned (.int .i64 (upI n k))∧Mod [] w w':=by
 have hu:=upI_bounds (n:=n) hk;unfold upI at hu;have hw:wrap64 ((n+k-1)/k*k)=(n+k-1)/k*k:=by
  generalize(n+k-1)/k*k=z at*;unfold wrap64;omega
 go_enter Tryz.func89,Tryz.ntmps89;go_wp2;go_ret;refine⟨?_,Mod.refl _ _⟩;simp[upI]
theorem checkF_ok (k c:Int) (w:World):Calls Tryz.prog 62 #[.agg #[.int .i64 k,.int .i64 c]] w fun e w'=>e=.returned (.int .i64 (errF (k,c)))∧Mod [] w w':=by
 go_enter Tryz.func62,Tryz.ntmps62;go_wp2
 all_goals go_ret
 all_goals refine⟨?_,(Mod.refl _ _).alloc _⟩
 all_goals simp_all [errF]
 all_goals (repeat' split)
 all_goals first|rfl|omega
end Go.Proofs.YteidpgdfocjdbaaGreat.Ty
namespace Go.Proofs.YteidpgdfocjdbaaGreat.Ty
open Go Go.RowKit Go.Stg
def stepL (s:Int×Int) (f:Fld):Int×Int:=(upI s.1 (ali f)+wid f,max s.2 (ali f))
def runL (fs:List Fld):Int×Int:=fs.foldl stepL (0,1)
def sizeR (fs:List Fld):Int:=upI (runL fs).1 (runL fs).2
def Good (fs:List Fld):Prop:=∀f∈fs,errF f=0
theorem runL_snoc (fs:List Fld) (f:Fld):runL (fs++[f])=stepL (runL fs) f:=by simp[runL]
theorem take_snoc {α:Type} (l:List α) {k:Nat} (h:k<l.length):l.take (k+1)=l.take k++[l[k]]:=by
 rw[List.take_add_one,List.getElem?_eq_getElem h];rfl
theorem runL_take:∀(fs:List Fld),Good fs→∀k,k≤fs.length→0≤(runL (fs.take k)).1∧(runL (fs.take k)).1≤k*65544∧1≤(runL (fs.take k)).2∧(runL (fs.take k)).2≤8:=by
 intro fs hg k;induction k with
 |zero=>intro _;simp[runL]
 |succ k ih=>
  intro hk;obtain⟨h1,h2,h3,h4⟩:=ih (by omega);obtain⟨g1,g2,g3,g4,g5⟩:=good_of (hg fs[k] (List.getElem_mem (by omega)));rw[take_snoc fs (by omega),runL_snoc];unfold stepL;have hu:=upI_bounds (n:=(runL (fs.take k)).1) (k:=ali fs[k]) (by omega);generalize upI (runL (fs.take k)).1 (ali fs[k])=z at*;refine⟨by omega,?_,by omega,by omega⟩;push_cast;omega
theorem runL_bounds (fs:List Fld) (hg:Good fs):0≤(runL fs).1∧(runL fs).1≤fs.length*65544∧1≤(runL fs).2∧(runL fs).2≤8:=by
 have h:=runL_take fs hg fs.length (Nat.le_refl _)
 rwa [List.take_length]at h
def FieldsAt (w:World) (v:Value) (fs:List Fld):Prop:=
 (v=.slice none 0 0∧fs=[])∨∃sb so cap,v=.slice (some ⟨sb,so,none⟩) fs.length cap∧sb<w.heap.size∧fs.length≤maxLen∧
  ∀i (h:i<fs.length),w.cell? ⟨sb,so+i*2,none⟩=some (.int .i64 fs[i].1)∧w.cell? ⟨sb,so+i*2+1,none⟩=some (.int .i64 fs[i].2)
theorem FieldsAt.len {w0:World} {v:Value} {fs:List Fld} (h:FieldsAt w0 v fs) (ty:TypeId) (w:World):(Builtin.len_ #[23] ty #[v]).run Tryz.prog w=.ok (.int .i64 fs.length) w:=by
 rcases h with⟨rfl,rfl⟩|⟨sb,so,cap,rfl,_⟩<;>simp[Builtin.len_,run_underlying Tryz.underlying23,goInt]
theorem cell_mod {S:List Nat} {w w':World} {b o:Nat} (hm:Mod S w w') (hb:b<w.heap.size) (hS:b∉S):w'.cell? ⟨b,o,none⟩=w.cell? ⟨b,o,none⟩:=
 World.cell?_of_block (a:=⟨b,o,none⟩) (hm.block b hb hS)
theorem FieldsAt.mod {w w':World} {v:Value} {fs:List Fld} (h:FieldsAt w v fs) (hm:Mod [] w w'):FieldsAt w' v fs:=by
 rcases h with h|⟨sb,so,cap,rfl,h2,h3,h4⟩
 ·exact .inl h
 ·exact .inr ⟨sb,so,cap,rfl,hm.lt h2,h3,fun i hi=>⟨(cell_mod hm h2 (by simp)).trans (h4 i hi).1,(cell_mod hm h2 (by simp)).trans (h4 i hi).2⟩⟩
theorem FieldsAt.small {w:World} {v:Value} {fs:List Fld} (h:FieldsAt w v fs):fs.length≤9223372036854775807:=by
 rcases h with⟨_,rfl⟩|⟨_,_,_,_,_,h,_⟩
 ·simp
 ·exact h
section
variable {P:Program} {ops:Array Oper} {I:World→Prop} {Out:Prop} {Q:Act→World→Prop}
theorem stage_write (C':World→Prop) {o:Oper} {rest:List Oper} {C:World→Prop} {a:Act}
  (hw:Region.wanted o (yielded ops a.tmps)=true) (he:eff o=true)
  (hrun:∀w,C w→∃w',(execOp a.eval o).run P w=.ok .skip w'∧C' w') (hI:∀w,C' w→I w)
  (h:wpStage P ops I Out Q rest C' (a.put o.dst undef)):wpStage P ops I Out Q (o::rest) C a:=by
 unfold wpStage;simp only[hw,he,if_true];refine⟨fun u=>u=undef,fun u w=>u=undef∧C' w,⟨undef,rfl⟩,fun w hc=> ?_,fun u w hu=>⟨hu.1,.inr (hI w hu.2)⟩,fun u hu=> ?_⟩
 ·obtain⟨w',hr,h1⟩:=hrun w hc;unfold gives;rw[hr];exact⟨rfl,h1⟩
 ·subst hu;simpa using h
end
def outC (fs:List Fld) (at':Int) (k:Nat):Array Value:=
 if h:0≤at'∧at'.toNat<k∧at'.toNat<fs.length then #[.int .i64 (upI (runL (fs.take at'.toNat)).1 (ali fs[at'.toNat])),.int .i64 (wid fs[at'.toNat]),.int .i64 fs[at'.toNat].1]else #[.int .i64 0,.int .i64 0,.int .i64 0]
theorem outC_other {fs:List Fld} {at':Int} {k:Nat} (h:((k:Int)==at')=false):outC fs at' (k+1)=outC fs at' k:=by
 have hne:(k:Int)≠at':=by simpa using h
 have e:(0≤at'∧at'.toNat<k+1∧at'.toNat<fs.length)=(0≤at'∧at'.toNat<k∧at'.toNat<fs.length):=by
  apply propext;constructor<;>rintro⟨h1,h2,h3⟩<;>exact⟨h1,by omega,h3⟩
 unfold outC;simp only[e]
theorem outC_here {fs:List Fld} {k:Nat} (h:k<fs.length):outC fs k (k+1)=#[.int .i64 (upI (runL (fs.take k)).1 (ali fs[k])),.int .i64 (wid fs[k]),.int .i64 fs[k].1]:=by
 unfold outC;rw[dif_pos ⟨by omega,by omega,by omega⟩];simp only[Int.toNat_natCast]
theorem outC_size (fs:List Fld) (at':Int) (k:Nat):∃x y z,outC fs at' k=#[.int .i64 x,.int .i64 y,.int .i64 z]:=by
 unfold outC;split
 ·exact⟨_,_,_,rfl⟩
 ·exact⟨_,_,_,rfl⟩
theorem places_ok (v:Value) (fs:List Fld) (at':Int) (w:World) (h:FieldsAt w v fs) (hg:Good fs) (hl:fs.length≤100):
  Calls Tryz.prog 109 #[v,.int .i64 at'] w fun e w'=>e=.returned (.tuple #[.agg (outC fs at' fs.length),.int .i64 (sizeR fs)])∧Mod [] w w':=by
 have hln:=fun ty w=>h.len ty w
 go_enter Tryz.func109,Tryz.ntmps109;go_wp2_with fail;have q0:=at_alloc_old (o:=.cells #[.int .i64 0,.int .i64 0,.int .i64 0] 121) (at_alloc w (.cells #[.int .i64 0,.int .i64 0,.int .i64 0] 121));have q1:=at_alloc (w.alloc (.cells #[.int .i64 0,.int .i64 0,.int .i64 0] 121)) (.cells #[.int .i64 0,.int .i64 0,.int .i64 0] 121);rw[World.size_alloc]at q1;have hm0:=((Mod.refl [] w).alloc (.cells #[.int .i64 0,.int .i64 0,.int .i64 0] 121)).alloc (.cells #[.int .i64 0,.int .i64 0,.int .i64 0] 121);generalize(w.alloc (.cells #[.int .i64 0,.int .i64 0,.int .i64 0] 121)).alloc (.cells #[.int .i64 0,.int .i64 0,.int .i64 0] 121)=W at*;go_loopw [7,8,15] (fun en mo i wr=>∃k:Nat,k≤fs.length∧i=.int .i64 k∧en=.int .i64 (runL (fs.take k)).1∧mo=.int .i64 (runL (fs.take k)).2∧Mod [] w wr∧wr.heap[w.heap.size]? =some (.cells #[.int .i64 0,.int .i64 0,.int .i64 0] 121 (0,0))∧wr.heap[w.heap.size+1]? =some (.cells (outC fs at' k) 121 (0,0))) (fun _ _ i _=>fs.length-(intOf i).toNat)
 case atStart=>exact⟨0,by omega,rfl,rfl,rfl,hm0,q0,by simpa[outC]using q1⟩
 case round=>
  obtain⟨k,hk,rfl,rfl,rfl,hm,r0,r1⟩:=hrel;clear q0 q1 hm0;by_cases hlt:k<fs.length
  ·rcases h with⟨_,rfl⟩|⟨sb,so,cap,rfl,h2,h3,h4⟩
   ·simp at hlt
   ·have c1:=(cell_mod hm h2 (by simp)).trans (h4 k hlt).1;have c2:=(cell_mod hm h2 (by simp)).trans (h4 k hlt).2;obtain⟨g1,g2,g3,g4,g5⟩:=good_of (hg fs[k] (List.getElem_mem hlt));obtain⟨b1,b2,b3,b4⟩:=runL_take fs hg k hk;have hsn:runL (fs.take (k+1))=stepL (runL (fs.take k)) fs[k]:=by rw[take_snoc fs hlt,runL_snoc]
    have hoh:=fun(e:(k:Int)=at')=>(by subst e;exact outC_here hlt:outC fs at' (k+1)=#[.int .i64 (upI (runL (fs.take k)).1 (ali fs[k])),.int .i64 (wid fs[k]),.int .i64 fs[k].1])
    clear h4;generalize fs[k]=f at*;generalize runL (fs.take k)=s at*;obtain⟨en,mo⟩:=s;obtain⟨fk,fc⟩:=f;simp only at g1 g2 b1 b2 b3 b4 c1 c2;have hu:=upI_bounds (n:=en) (k:=ali (fk,fc)) (by omega);go_wp2_with fail;refine(ali_ok fk fc _).mono ?_;rintro e w1 ⟨rfl,hm1⟩;have f1:=hm1.at (at_alloc wr (.cells #[.int .i64 fk,.int .i64 fc] 63)) (by simp);have r0:=hm1.at (at_alloc_old (o:=.cells #[.int .i64 fk,.int .i64 fc] 63) r0) (by simp);have r1:=hm1.at (at_alloc_old (o:=.cells #[.int .i64 fk,.int .i64 fc] 63) r1) (by simp);have hm1:=(hm.alloc (.cells #[.int .i64 fk,.int .i64 fc] 63)).nil_then hm1;generalize wr.heap.size=F at*;clear c1 c2 hm;go_wp2_with fail;refine(up_okUp en (ali (fk,fc)) (by omega) (by omega) (by omega) (by omega) _).mono ?_;rintro e w2 ⟨rfl,hm2⟩;have f2:=hm2.at f1 (by simp);have r0:=hm2.at r0 (by simp);have r1:=hm2.at r1 (by simp);have hm2:=hm1.nil_then hm2;have cf:=cells_of f2;clear f1 hm1;go_wp2_with fail;refine(width_ok fk fc _).mono ?_;rintro e w3 ⟨rfl,hm3⟩;have f3:=hm3.at f2 (by simp);have r0:=hm3.at r0 (by simp);have r1:=hm3.at r1 (by simp);have hm3:=hm2.nil_then hm3;clear f2 hm2 cf;have hst:stepL (en,mo) (fk,fc)=(upI en (ali (fk,fc))+wid (fk,fc),max mo (ali (fk,fc))):=rfl;rw[hst]at hsn;generalize upI en (ali (fk,fc))=z at*;generalize hwd:wid (fk,fc)=wd at*;generalize ali (fk,fc)=al at*;clear hst;have cf:=cells_of f3;by_cases hat:(k:Int)=at'
    ·subst hat;by_cases hmx:mo<al
     ·go_wp2_with fail;have k1:=GW.cells (S:=[]) f3 (by simp);have hoh:=hoh trivial;obtain⟨x,y,z0,ho⟩:=outC_size fs k k;rw[ho]at r1;clear cf;refine wp_region_pure (by kernel_rfl) (by kernel_rfl) ?_;refine stage_quiet 2 (by kernel_rfl) ?_;simp only[tA,tB,tC,tD];(repeat go_big_quiet_step (fail));refine wpQuiet_nil ?_;refine stage_pure 108 _ (.int .i64 wd) rfl Tryz.call108 rfl rfl (fun w' _=>(width_ok fk fc w').mono fun e w'' ⟨he,hm⟩=>⟨by rw[he,hwd],hm⟩) ?_;simp only[Act.put,sA,sB,sC];refine stage_quiet 3 (by kernel_rfl) ?_;simp only[tA,tB,tC,tD];(repeat go_big_quiet_step (fail));refine wpQuiet_nil ?_;refine stage_store (p:=⟨w.heap.size+1,0,none⟩) (u:=.agg #[.int .i64 z,.int .i64 wd,.int .i64 fk]) (fun w'=>((w'.setCell ⟨w.heap.size+1,0,none⟩ (.int .i64 z)).setCell ⟨w.heap.size+1,1,none⟩ (.int .i64 wd)).setCell ⟨w.heap.size+1,2,none⟩ (.int .i64 fk)) rfl rfl (by kernel_rfl) rfl rfl rfl (fun w' hw=> ?_) (fun w4 hm4=> ?_)
      ·have d:=hw.at r1 (by simp);have d1:=cells_of d;have d2:=frozen_of d;clear k1 r1 r0 f3;go_simp
      ·have r0:=hm4.at r0 (by simp);have r1:=hm4.at r1 (by simp);have hm4:=hm3.nil_then hm4;have r0:=at_setCell_other (a:=⟨w.heap.size+1,2,none⟩) (v:=.int .i64 fk) (at_setCell_other (a:=⟨w.heap.size+1,1,none⟩) (v:=.int .i64 wd) (at_setCell_other (a:=⟨w.heap.size+1,0,none⟩) (v:=.int .i64 z) r0 (by simp)) (by simp)) (by simp);have r1:=at_setCell (o:=2) (v:=.int .i64 fk) (at_setCell (o:=1) (v:=.int .i64 wd) (at_setCell (o:=0) (v:=.int .i64 z) r1));have hm4:=((hm4.setCell (p:=⟨w.heap.size+1,0,none⟩) (.inr (by show w.heap.size≤w.heap.size+1;omega)) (.int .i64 z)).setCell (p:=⟨w.heap.size+1,1,none⟩) (.inr (by show w.heap.size≤w.heap.size+1;omega)) (.int .i64 wd)).setCell (p:=⟨w.heap.size+1,2,none⟩) (.inr (by show w.heap.size≤w.heap.size+1;omega)) (.int .i64 fk);generalize((w4.setCell ⟨w.heap.size+1,0,none⟩ (.int .i64 z)).setCell ⟨w.heap.size+1,1,none⟩ (.int .i64 wd)).setCell ⟨w.heap.size+1,2,none⟩ (.int .i64 fk)=w5 at*;clear k1 f3;go_wp2_with fail;go_roundw
       case rel=>
        refine⟨k+1,by omega,by go_num,by rw[hsn],by rw[hsn];congr 1;omega,hm4,r0,?_⟩;rw[hoh];exact r1
       case measure=>simp[intOf];omega
     ·go_wp2_with fail;have k1:=GW.cells (S:=[]) f3 (by simp);have hoh:=hoh trivial;obtain⟨x,y,z0,ho⟩:=outC_size fs k k;rw[ho]at r1;clear cf;refine wp_region_pure (by kernel_rfl) (by kernel_rfl) ?_;refine stage_quiet 2 (by kernel_rfl) ?_;simp only[tA,tB,tC,tD];(repeat go_big_quiet_step (fail));refine wpQuiet_nil ?_;refine stage_pure 108 _ (.int .i64 wd) rfl Tryz.call108 rfl rfl (fun w' _=>(width_ok fk fc w').mono fun e w'' ⟨he,hm⟩=>⟨by rw[he,hwd],hm⟩) ?_;simp only[Act.put,sA,sB,sC];refine stage_quiet 3 (by kernel_rfl) ?_;simp only[tA,tB,tC,tD];(repeat go_big_quiet_step (fail));refine wpQuiet_nil ?_;refine stage_store (p:=⟨w.heap.size+1,0,none⟩) (u:=.agg #[.int .i64 z,.int .i64 wd,.int .i64 fk]) (fun w'=>((w'.setCell ⟨w.heap.size+1,0,none⟩ (.int .i64 z)).setCell ⟨w.heap.size+1,1,none⟩ (.int .i64 wd)).setCell ⟨w.heap.size+1,2,none⟩ (.int .i64 fk)) rfl rfl (by kernel_rfl) rfl rfl rfl (fun w' hw=> ?_) (fun w4 hm4=> ?_)
      ·have d:=hw.at r1 (by simp);have d1:=cells_of d;have d2:=frozen_of d;clear k1 r1 r0 f3;go_simp
      ·have r0:=hm4.at r0 (by simp);have r1:=hm4.at r1 (by simp);have hm4:=hm3.nil_then hm4;have r0:=at_setCell_other (a:=⟨w.heap.size+1,2,none⟩) (v:=.int .i64 fk) (at_setCell_other (a:=⟨w.heap.size+1,1,none⟩) (v:=.int .i64 wd) (at_setCell_other (a:=⟨w.heap.size+1,0,none⟩) (v:=.int .i64 z) r0 (by simp)) (by simp)) (by simp);have r1:=at_setCell (o:=2) (v:=.int .i64 fk) (at_setCell (o:=1) (v:=.int .i64 wd) (at_setCell (o:=0) (v:=.int .i64 z) r1));have hm4:=((hm4.setCell (p:=⟨w.heap.size+1,0,none⟩) (.inr (by show w.heap.size≤w.heap.size+1;omega)) (.int .i64 z)).setCell (p:=⟨w.heap.size+1,1,none⟩) (.inr (by show w.heap.size≤w.heap.size+1;omega)) (.int .i64 wd)).setCell (p:=⟨w.heap.size+1,2,none⟩) (.inr (by show w.heap.size≤w.heap.size+1;omega)) (.int .i64 fk);generalize((w4.setCell ⟨w.heap.size+1,0,none⟩ (.int .i64 z)).setCell ⟨w.heap.size+1,1,none⟩ (.int .i64 wd)).setCell ⟨w.heap.size+1,2,none⟩ (.int .i64 fk)=w5 at*;clear k1 f3;go_wp2_with fail;go_roundw
       case rel=>
        refine⟨k+1,by omega,by go_num,by rw[hsn],by rw[hsn];congr 1;omega,hm4,r0,?_⟩;rw[hoh];exact r1
       case measure=>simp[intOf];omega
    ·go_wp2_with fail;go_roundw
     case rel=>exact⟨k+1,by omega,by go_num,by rw[hsn],by rw[hsn];congr 1;omega,hm3,r0,by rw[outC_other (by simpa using hat)];exact r1⟩
     case measure=>simp[intOf];omega
  ·obtain rfl:k=fs.length:=by omega
   obtain⟨x,y,z0,ho⟩:=outC_size fs at' fs.length;rw[ho]at r1;obtain⟨b1,b2,b3,b4⟩:=runL_bounds fs hg;have hsz:sizeR fs=upI (runL fs).1 (runL fs).2:=rfl;have c1:=cells_of r1;rw[List.take_length];clear hg;generalize runL fs=s at*;obtain⟨en,mo⟩:=s;simp only at b1 b2 b3 b4 hsz;have hoH:=Lib.hid ho;have hszH:=Lib.hid hsz;clear ho hsz;go_wp2_with fail;have k1:=GW.cells (S:=[w.heap.size]) r1 (by simp);clear c1 h hln;refine wp_region_stage (fun w'=>∃x:GW [w.heap.size] wr,w'=x.1) (fun w'=>Mod [] wr w') (by kernel_rfl) (by kernel_rfl) (fun _ h=>InGW.of (h.mono (by simp))) (Mod.refl _ _).drew ?_;refine stage_quiet 3 (by kernel_rfl) ?_;simp only[tA,tB,tC,tD];(repeat go_big_quiet_step (fail));refine wpQuiet_nil ?_;refine stage_go 137 _ (.int .i64 (upI en mo)) (fun w'=>Mod [] wr w') rfl Tryz.call137 rfl rfl (fun w' h=>(up_okUp en mo (by omega) (by omega) (by omega) (by omega) w').mono fun e w'' ⟨he,hm⟩=>⟨he,h.nil_then hm⟩) (fun _ h=>InGW.of (h.mono (by simp))) ?_;simp only[Act.put,sA,sB,sC];refine stage_write (fun w'=>Mod [w.heap.size] wr w'∧w'.heap[w.heap.size]? =some (.cells #[.int .i64 x,.int .i64 y,.int .i64 z0] 121 (0,0))) rfl rfl (fun w' h=>⟨((w'.setCell ⟨w.heap.size,0,none⟩ (.int .i64 x)).setCell ⟨w.heap.size,1,none⟩ (.int .i64 y)).setCell ⟨w.heap.size,2,none⟩ (.int .i64 z0),?_,?_,?_⟩) (fun _ h=>InGW.of h.1) ?_
   ·have d:=h.at r0 (by simp);have d1:=cells_of d;have d2:=frozen_of d;clear k1 r1 r0;go_simp
   ·exact(((h.mono (by simp)).setCell (p:=⟨w.heap.size,0,none⟩) (.inl (by simp)) _).setCell (p:=⟨w.heap.size,1,none⟩) (.inl (by simp)) _).setCell (p:=⟨w.heap.size,2,none⟩) (.inl (by simp)) _
   ·exact at_setCell (o:=2) (at_setCell (o:=1) (at_setCell (o:=0) (h.at r0 (by simp))))
   simp only[Act.put];refine stage_quiet 1 (by kernel_rfl) ?_;simp only[tA,tB,tC,tD];(repeat go_big_quiet_step (fail));refine wpQuiet_nil ?_;refine stage_nil ?_;rintro w2 ⟨hm2,hr2⟩;have c2:=cells_of hr2;go_wp2_with fail;refine bodyPost_ret (v:=.tuple #[.agg (outC fs at' fs.length),.int .i64 (sizeR fs)]) ?_ rfl ⟨rfl,hm.then hm2 (by simp)⟩;rw[hoH.out,hszH.out];simp[results,Tryz.results109,go_sem,c2]
end Go.Proofs.YteidpgdfocjdbaaGreat.Ty
