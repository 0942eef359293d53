/- Joined contracts. No conditions. -/
import Derived.Test.YtdehaommhbjakaaGreatC08
set_option maxHeartbeats 4000000
set_option maxRecDepth 10000
namespace Go.Proofs.YtdehaommhbjakaaGreat.Ty
open RowKit Stg
def lL (s:Int×Int) (f:aM):Int×Int:=(dj s.1 (cu f)+wid f,max s.2 (cu f))
def bu (fs:List aM):Int×Int:=fs.foldl lL (0,1)
def jQ (fs:List aM):Int:=dj (bu fs).1 (bu fs).2
def Good (fs:List aM):Prop:=∀f∈fs,bM f=0
theorem mV (fs:List aM) (f:aM):bu (fs++[f])=lL (bu fs) f:=by simp[bu]
theorem jJ {α:Type} (l:List α) {k:Nat} (h:k<l.length):l.take (k+1)=l.take k++[l[k]]:=by
 rw[List.take_add_one,List.getElem?_eq_getElem h];rfl
theorem oo:∀(fs:List aM),Good fs→∀k,k≤fs.length→0≤(bu (fs.take k)).1∧(bu (fs.take k)).1≤k*65544∧1≤(bu (fs.take k)).2∧(bu (fs.take k)).2≤8:=by
 intro fs hg k;induction k with
 |zero=>intro _;simp[bu]
 |succ k ih=>
  intro hk;obtain⟨h1,h2,h3,h4⟩:=ih (by omega);obtain⟨g1,g2,g3,g4,g5⟩:=jh (hg fs[k] (List.getElem_mem (by omega)));rw[jJ fs (by omega),mV];unfold lL;have hu:=jI (n:=(bu (fs.take k)).1) (k:=cu fs[k]) (by omega);generalize dj (bu (fs.take k)).1 (cu fs[k])=z at*;refine⟨by omega,?_,by omega,by omega⟩;push_cast;omega
theorem pD (fs:List aM) (hg:Good fs):0≤(bu fs).1∧(bu fs).1≤fs.length*65544∧1≤(bu fs).2∧(bu fs).2≤8:=by
 have h:=oo fs hg fs.length (Nat.le_refl _)
 rwa [List.take_length]at h
def aw (w:World) (v:Value) (fs:List aM):Prop:=
 (v=.slice none 0 0∧fs=[])∨∃sb so cap,v=.slice (some ⟨sb,so,none⟩) fs.length cap∧sb<w.heap.size∧fs.length≤maxLen∧
  ∀i (h:i<fs.length),w.cell? ⟨sb,so+i*2,none⟩=some (.int .i64 fs[i].1)∧w.cell? ⟨sb,so+i*2+1,none⟩=some (.int .i64 fs[i].2)
theorem aw.len {w0:World} {v:Value} {fs:List aM} (h:aw w0 v fs) (ty:TypeId) (w:World):(Builtin.len_ #[52] ty #[v]).run Tryz.prog w=.ok (.int .i64 fs.length) w:=by
 rcases h with⟨rfl,rfl⟩|⟨sb,so,cap,rfl,_⟩<;>simp[Builtin.len_,run_underlying Tryz.underlying52,goInt]
theorem bg {S:List Nat} {w w':World} {b o:Nat} (hm:Mod S w w') (hb:b<w.heap.size) (hS:b∉S):w'.cell? ⟨b,o,none⟩=w.cell? ⟨b,o,none⟩:=
 World.cell?_of_block (a:=⟨b,o,none⟩) (hm.block b hb hS)
theorem aw.mod {w w':World} {v:Value} {fs:List aM} (h:aw w v fs) (hm:Mod [] w w'):aw w' v fs:=by
 rcases h with h|⟨sb,so,cap,rfl,h2,h3,h4⟩
 ·exact .inl h
 ·exact .inr ⟨sb,so,cap,rfl,hm.lt h2,h3,fun i hi=>⟨(bg hm h2 (by simp)).trans (h4 i hi).1,(bg hm h2 (by simp)).trans (h4 i hi).2⟩⟩
theorem aw.small {w:World} {v:Value} {fs:List aM} (h:aw w v fs):fs.length≤9223372036854775807:=by
 rcases h with⟨_,rfl⟩|⟨_,_,_,_,_,h,_⟩
 ·simp
 ·exact h
section
variable {P:Program} {ops:Array Oper} {I:World→Prop} {Out:Prop} {Q:Act→World→Prop}
theorem lq (C':World→Prop) {o:Oper} {rest:List Oper} {C:World→Prop} {a:Act}
  (hw:Region.wanted o (yielded ops a.tmps)=true) (he:aY o=true)
  (hrun:∀w,C w→∃w',(execOp a.eval o).run P w=.ok .skip w'∧C' w') (hI:∀w,C' w→I w)
  (h:aH P ops I Out Q rest C' (a.put o.dst undef)):aH P ops I Out Q (o::rest) C a:=by
 unfold aH;simp only[hw,he,if_true];refine⟨fun u=>u=undef,fun u w=>u=undef∧C' w,⟨undef,rfl⟩,fun w hc=> ?_,fun u w hu=>⟨hu.1,.inr (hI w hu.2)⟩,fun u hu=> ?_⟩
 ·obtain⟨w',hr,h1⟩:=hrun w hc;unfold gives;rw[hr];exact⟨rfl,h1⟩
 ·subst hu;simpa using h
end
def dS (fs:List aM) (at':Int) (k:Nat):Array Value:=
 if h:0≤at'∧at'.toNat<k∧at'.toNat<fs.length then #[.int .i64 (dj (bu (fs.take at'.toNat)).1 (cu fs[at'.toNat])),.int .i64 (wid fs[at'.toNat]),.int .i64 fs[at'.toNat].1]else #[.int .i64 0,.int .i64 0,.int .i64 0]
theorem BV {fs:List aM} {at':Int} {k:Nat} (h:((k:Int)==at')=false):dS fs at' (k+1)=dS fs at' k:=by
 have hne:(k:Int)≠at':=by simpa using h
 have e:(0≤at'∧at'.toNat<k+1∧at'.toNat<fs.length)=(0≤at'∧at'.toNat<k∧at'.toNat<fs.length):=by
  apply propext;constructor<;>rintro⟨h1,h2,h3⟩<;>exact⟨h1,by omega,h3⟩
 unfold dS;simp only[e]
theorem rX {fs:List aM} {k:Nat} (h:k<fs.length):dS fs k (k+1)=#[.int .i64 (dj (bu (fs.take k)).1 (cu fs[k])),.int .i64 (wid fs[k]),.int .i64 fs[k].1]:=by
 unfold dS;rw[dif_pos ⟨by omega,by omega,by omega⟩];simp only[Int.toNat_natCast]
theorem nZ (fs:List aM) (at':Int) (k:Nat):∃x y z,dS fs at' k=#[.int .i64 x,.int .i64 y,.int .i64 z]:=by
 unfold dS;split
 ·exact⟨_,_,_,rfl⟩
 ·exact⟨_,_,_,rfl⟩
theorem wa (v:Value) (fs:List aM) (at':Int) (w:World) (h:aw w v fs) (hg:Good fs) (hl:fs.length≤100):
  Calls Tryz.prog 132 #[v,.int .i64 at'] w fun e w'=>e=.returned (.tuple #[.agg (dS fs at' fs.length),.int .i64 (jQ fs)])∧Mod [] w w':=by
 have hln:=fun ty w=>h.len ty w
 go_enter Tryz.func132,Tryz.ntmps132;go_wp2_with fail;have q0:=aI (o:=.cells #[.int .i64 0,.int .i64 0,.int .i64 0] 211) (an w (.cells #[.int .i64 0,.int .i64 0,.int .i64 0] 211));have q1:=an (w.alloc (.cells #[.int .i64 0,.int .i64 0,.int .i64 0] 211)) (.cells #[.int .i64 0,.int .i64 0,.int .i64 0] 211);rw[World.size_alloc]at q1;have hm0:=((Mod.refl [] w).alloc (.cells #[.int .i64 0,.int .i64 0,.int .i64 0] 211)).alloc (.cells #[.int .i64 0,.int .i64 0,.int .i64 0] 211);generalize(w.alloc (.cells #[.int .i64 0,.int .i64 0,.int .i64 0] 211)).alloc (.cells #[.int .i64 0,.int .i64 0,.int .i64 0] 211)=W at*;go_loopw [7,8,15] (fun en mo i wr=>∃k:Nat,k≤fs.length∧i=.int .i64 k∧en=.int .i64 (bu (fs.take k)).1∧mo=.int .i64 (bu (fs.take k)).2∧Mod [] w wr∧wr.heap[w.heap.size]? =some (.cells #[.int .i64 0,.int .i64 0,.int .i64 0] 211 (0,0))∧wr.heap[w.heap.size+1]? =some (.cells (dS fs at' k) 211 (0,0))) (fun _ _ i _=>fs.length-(intOf i).toNat)
 case atStart=>exact⟨0,by omega,rfl,rfl,rfl,hm0,q0,by simpa[dS]using q1⟩
 case round=>
  obtain⟨k,hk,rfl,rfl,rfl,hm,r0,r1⟩:=hrel;clear q0 q1 hm0;by_cases hlt:k<fs.length
  ·rcases h with⟨_,rfl⟩|⟨sb,so,cap,rfl,h2,h3,h4⟩
   ·simp at hlt
   ·have c1:=(bg hm h2 (by simp)).trans (h4 k hlt).1;have c2:=(bg hm h2 (by simp)).trans (h4 k hlt).2;obtain⟨g1,g2,g3,g4,g5⟩:=jh (hg fs[k] (List.getElem_mem hlt));obtain⟨b1,b2,b3,b4⟩:=oo fs hg k hk;have hsn:bu (fs.take (k+1))=lL (bu (fs.take k)) fs[k]:=by rw[jJ fs hlt,mV]
    have hoh:=fun(e:(k:Int)=at')=>(by subst e;exact rX hlt:dS fs at' (k+1)=#[.int .i64 (dj (bu (fs.take k)).1 (cu fs[k])),.int .i64 (wid fs[k]),.int .i64 fs[k].1])
    clear h4;generalize fs[k]=f at*;generalize bu (fs.take k)=s at*;obtain⟨en,mo⟩:=s;obtain⟨fk,fc⟩:=f;simp only at g1 g2 b1 b2 b3 b4 c1 c2;have hu:=jI (n:=en) (k:=cu (fk,fc)) (by omega);go_wp2_with fail;refine(GH fk fc _).mono ?_;rintro e w1 ⟨rfl,hm1⟩;have f1:=hm1.at (an wr (.cells #[.int .i64 fk,.int .i64 fc] 51)) (by simp);have r0:=hm1.at (aI (o:=.cells #[.int .i64 fk,.int .i64 fc] 51) r0) (by simp);have r1:=hm1.at (aI (o:=.cells #[.int .i64 fk,.int .i64 fc] 51) r1) (by simp);have hm1:=(hm.alloc (.cells #[.int .i64 fk,.int .i64 fc] 51)).ag hm1;generalize wr.heap.size=F at*;clear c1 c2 hm;go_wp2_with fail;refine(yS en (cu (fk,fc)) (by omega) (by omega) (by omega) (by omega) _).mono ?_;rintro e w2 ⟨rfl,hm2⟩;have f2:=hm2.at f1 (by simp);have r0:=hm2.at r0 (by simp);have r1:=hm2.at r1 (by simp);have hm2:=hm1.ag hm2;have cf:=ae f2;clear f1 hm1;go_wp2_with fail;refine(nf fk fc _).mono ?_;rintro e w3 ⟨rfl,hm3⟩;have f3:=hm3.at f2 (by simp);have r0:=hm3.at r0 (by simp);have r1:=hm3.at r1 (by simp);have hm3:=hm2.ag hm3;clear f2 hm2 cf;have hst:lL (en,mo) (fk,fc)=(dj en (cu (fk,fc))+wid (fk,fc),max mo (cu (fk,fc))):=rfl;rw[hst]at hsn;generalize dj en (cu (fk,fc))=z at*;generalize hwd:wid (fk,fc)=wd at*;generalize cu (fk,fc)=al at*;clear hst;have cf:=ae f3;by_cases hat:(k:Int)=at'
    ·subst hat;by_cases hmx:mo<al
     ·go_wp2_with fail;have k1:=GW.cells (S:=[]) f3 (by simp);have hoh:=hoh trivial;obtain⟨x,y,z0,ho⟩:=nZ fs k k;rw[ho]at r1;clear cf;refine aS (by kernel_rfl) (by kernel_rfl) ?_;refine sq 2 ?_;refine b7 131 _ (.int .i64 wd) rfl Tryz.call131 rfl rfl (fun w' _=>(nf fk fc w').mono fun e w'' ⟨he,hm⟩=>⟨by rw[he,hwd],hm⟩) ?_;refine sq 3 ?_;refine dq (p:=⟨w.heap.size+1,0,none⟩) (u:=.agg #[.int .i64 z,.int .i64 wd,.int .i64 fk]) (fun w'=>((w'.setCell ⟨w.heap.size+1,0,none⟩ (.int .i64 z)).setCell ⟨w.heap.size+1,1,none⟩ (.int .i64 wd)).setCell ⟨w.heap.size+1,2,none⟩ (.int .i64 fk)) rfl rfl (by kernel_rfl) rfl rfl rfl (fun w' hw=> ?_) (fun w4 hm4=> ?_)
      ·have d:=hw.at r1 (by simp);have d1:=ae d;have d2:=ay d;clear k1 r1 r0 f3;go_simp
      ·have r0:=hm4.at r0 (by simp);have r1:=hm4.at r1 (by simp);have hm4:=hm3.ag hm4;have r0:=dI (a:=⟨w.heap.size+1,2,none⟩) (v:=.int .i64 fk) (dI (a:=⟨w.heap.size+1,1,none⟩) (v:=.int .i64 wd) (dI (a:=⟨w.heap.size+1,0,none⟩) (v:=.int .i64 z) r0 (by simp)) (by simp)) (by simp);have r1:=aq (o:=2) (v:=.int .i64 fk) (aq (o:=1) (v:=.int .i64 wd) (aq (o:=0) (v:=.int .i64 z) r1));have hm4:=((hm4.setCell (p:=⟨w.heap.size+1,0,none⟩) (.inr (by show w.heap.size≤w.heap.size+1;omega)) (.int .i64 z)).setCell (p:=⟨w.heap.size+1,1,none⟩) (.inr (by show w.heap.size≤w.heap.size+1;omega)) (.int .i64 wd)).setCell (p:=⟨w.heap.size+1,2,none⟩) (.inr (by show w.heap.size≤w.heap.size+1;omega)) (.int .i64 fk);generalize((w4.setCell ⟨w.heap.size+1,0,none⟩ (.int .i64 z)).setCell ⟨w.heap.size+1,1,none⟩ (.int .i64 wd)).setCell ⟨w.heap.size+1,2,none⟩ (.int .i64 fk)=w5 at*;clear k1 f3;go_wp2_with fail;go_roundw
       case rel=>
        refine⟨k+1,by omega,by go_num,by rw[hsn],by rw[hsn];congr 1;omega,hm4,r0,?_⟩;rw[hoh];exact r1
       case measure=>simp[intOf];omega
     ·go_wp2_with fail;have k1:=GW.cells (S:=[]) f3 (by simp);have hoh:=hoh trivial;obtain⟨x,y,z0,ho⟩:=nZ fs k k;rw[ho]at r1;clear cf;refine aS (by kernel_rfl) (by kernel_rfl) ?_;refine sq 2 ?_;refine b7 131 _ (.int .i64 wd) rfl Tryz.call131 rfl rfl (fun w' _=>(nf fk fc w').mono fun e w'' ⟨he,hm⟩=>⟨by rw[he,hwd],hm⟩) ?_;refine sq 3 ?_;refine dq (p:=⟨w.heap.size+1,0,none⟩) (u:=.agg #[.int .i64 z,.int .i64 wd,.int .i64 fk]) (fun w'=>((w'.setCell ⟨w.heap.size+1,0,none⟩ (.int .i64 z)).setCell ⟨w.heap.size+1,1,none⟩ (.int .i64 wd)).setCell ⟨w.heap.size+1,2,none⟩ (.int .i64 fk)) rfl rfl (by kernel_rfl) rfl rfl rfl (fun w' hw=> ?_) (fun w4 hm4=> ?_)
      ·have d:=hw.at r1 (by simp);have d1:=ae d;have d2:=ay d;clear k1 r1 r0 f3;go_simp
      ·have r0:=hm4.at r0 (by simp);have r1:=hm4.at r1 (by simp);have hm4:=hm3.ag hm4;have r0:=dI (a:=⟨w.heap.size+1,2,none⟩) (v:=.int .i64 fk) (dI (a:=⟨w.heap.size+1,1,none⟩) (v:=.int .i64 wd) (dI (a:=⟨w.heap.size+1,0,none⟩) (v:=.int .i64 z) r0 (by simp)) (by simp)) (by simp);have r1:=aq (o:=2) (v:=.int .i64 fk) (aq (o:=1) (v:=.int .i64 wd) (aq (o:=0) (v:=.int .i64 z) r1));have hm4:=((hm4.setCell (p:=⟨w.heap.size+1,0,none⟩) (.inr (by show w.heap.size≤w.heap.size+1;omega)) (.int .i64 z)).setCell (p:=⟨w.heap.size+1,1,none⟩) (.inr (by show w.heap.size≤w.heap.size+1;omega)) (.int .i64 wd)).setCell (p:=⟨w.heap.size+1,2,none⟩) (.inr (by show w.heap.size≤w.heap.size+1;omega)) (.int .i64 fk);generalize((w4.setCell ⟨w.heap.size+1,0,none⟩ (.int .i64 z)).setCell ⟨w.heap.size+1,1,none⟩ (.int .i64 wd)).setCell ⟨w.heap.size+1,2,none⟩ (.int .i64 fk)=w5 at*;clear k1 f3;go_wp2_with fail;go_roundw
       case rel=>
        refine⟨k+1,by omega,by go_num,by rw[hsn],by rw[hsn];congr 1;omega,hm4,r0,?_⟩;rw[hoh];exact r1
       case measure=>simp[intOf];omega
    ·go_wp2_with fail;go_roundw
     case rel=>exact⟨k+1,by omega,by go_num,by rw[hsn],by rw[hsn];congr 1;omega,hm3,r0,by rw[BV (by simpa using hat)];exact r1⟩
     case measure=>simp[intOf];omega
  ·obtain rfl:k=fs.length:=by omega
   obtain⟨x,y,z0,ho⟩:=nZ fs at' fs.length;rw[ho]at r1;obtain⟨b1,b2,b3,b4⟩:=pD fs hg;have hsz:jQ fs=dj (bu fs).1 (bu fs).2:=rfl;have c1:=ae r1;rw[List.take_length];clear hg;generalize bu fs=s at*;obtain⟨en,mo⟩:=s;simp only at b1 b2 b3 b4 hsz;have hoH:=zh ho;have hszH:=zh hsz;clear ho hsz;go_wp2_with fail;have k1:=GW.cells (S:=[w.heap.size]) r1 (by simp);clear c1 h hln;refine bY (fun w'=>∃x:GW [w.heap.size] wr,w'=x.1) (fun w'=>Mod [] wr w') (by kernel_rfl) (by kernel_rfl) (fun _ h=>ah.of (h.mono (by simp))) (Mod.refl _ _).drew ?_;refine sq 3 ?_;refine dL 172 _ (.int .i64 (dj en mo)) (fun w'=>Mod [] wr w') rfl Tryz.call172 rfl rfl (fun w' h=>(yS en mo (by omega) (by omega) (by omega) (by omega) w').mono fun e w'' ⟨he,hm⟩=>⟨he,h.ag hm⟩) (fun _ h=>ah.of (h.mono (by simp))) ?_;simp only[Act.put,sA,sB,sC];refine lq (fun w'=>Mod [w.heap.size] wr w'∧w'.heap[w.heap.size]? =some (.cells #[.int .i64 x,.int .i64 y,.int .i64 z0] 211 (0,0))) rfl rfl (fun w' h=>⟨((w'.setCell ⟨w.heap.size,0,none⟩ (.int .i64 x)).setCell ⟨w.heap.size,1,none⟩ (.int .i64 y)).setCell ⟨w.heap.size,2,none⟩ (.int .i64 z0),?_,?_,?_⟩) (fun _ h=>ah.of h.1) ?_
   ·have d:=h.at r0 (by simp);have d1:=ae d;have d2:=ay d;clear k1 r1 r0;go_simp
   ·exact(((h.mono (by simp)).setCell (p:=⟨w.heap.size,0,none⟩) (.inl (by simp)) _).setCell (p:=⟨w.heap.size,1,none⟩) (.inl (by simp)) _).setCell (p:=⟨w.heap.size,2,none⟩) (.inl (by simp)) _
   ·exact aq (o:=2) (aq (o:=1) (aq (o:=0) (h.at r0 (by simp))))
   simp only[Act.put];refine sq 1 ?_;refine au ?_;rintro w2 ⟨hm2,hr2⟩;have c2:=ae hr2;go_wp2_with fail;refine bodyPost_ret (v:=.tuple #[.agg (dS fs at' fs.length),.int .i64 (jQ fs)]) ?_ rfl ⟨rfl,hm.then hm2 (by simp)⟩;rw[hoH.out,hszH.out];simp[results,Tryz.results132,go_sem,c2]
end Go.Proofs.YtdehaommhbjakaaGreat.Ty
namespace Go.Proofs.YtdehaommhbjakaaGreat.Ty
open RowKit Stg
def iG:List aM→Int
 | []=>0
 |f::r=>if bM f≠0 then bM f else iG r
theorem nP {fs:List aM} (h:Good fs):iG fs=0:=by
 induction fs with
 |nil=>rfl
 |cons f r ih=>simp[iG,h f (by simp),ih (fun g hg=>h g (by simp[hg]))]
theorem pE {fs:List aM} {k:Nat} (hk:k<fs.length) (h:Good (fs.take k)) (he:bM fs[k]≠0):iG fs=bM fs[k]:=by
 induction fs generalizing k with
 |nil=>simp at hk
 |cons f r ih=>
  cases k with
  |zero=>simp at he;simp[iG,he]
  |succ k=>
   have h0:bM f=0:=h f (by simp);simp only[iG,h0,ne_eq,not_true_eq_false,if_false,List.getElem_cons_succ];exact ih (by simpa using hk) (fun g hg=>h g (by simp[hg])) (by simpa using he)
theorem p5 {fs:List aM} {k:Nat} (hk:k<fs.length) (h:Good (fs.take k)) (he:bM fs[k]=0):Good (fs.take (k+1)):=by
 rw[jJ fs hk];intro f hf;rcases List.mem_append.1 hf with hf|hf
 ·exact h f hf
 ·rw[List.mem_singleton.1 hf];exact he
def hd (fs:List aM):aM:=fs.headD (0,0)
def cC (len:Int) (fs:List aM):Int:=if 0<len then len*wid (hd fs)else jQ fs
def kY (len:Int) (fs:List aM):Prop:=(len=0∧fs.length=0)∨(0<len∧fs.length≠1)
instance kY.dec (len:Int) (fs:List aM):Decidable (kY len fs):=inferInstanceAs (Decidable (_∨_))
def bS (len:Int) (fs:List aM):Int:=if len<0 then 3 else if 65536<len then 4 else if kY len fs then 3 else if 32<fs.length then 4 else if iG fs≠0 then iG fs else if 65536<cC len fs then 4 else 0
theorem ni (len:Int) (v:Value) (fs:List aM) (w:World) (h:aw w v fs) (hg:Good fs) (hl:fs.length≤100) (h0:0≤len) (h1:len≤65536) (h2:0<len→fs.length=1):
  Calls Tryz.prog 69 #[.agg #[.int .i64 len,v]] w fun e w'=>e=.returned (.int .i64 (cC len fs))∧Mod [] w w':=by
 have q0:=an w (.cells #[.int .i64 len,v] 54);have hm0:=(Mod.refl [] w).alloc (.cells #[.int .i64 len,v] 54);have h':=h.mod hm0;go_enter Tryz.func69,Tryz.ntmps69;by_cases hp:0<len
 ·go_wp2_with fail;have hone:=h2 hp;rcases h' with⟨_,rfl⟩|⟨sb,so,cap,rfl,g2,g3,g4⟩
  ·simp at hone
  ·generalize w.alloc (.cells #[.int .i64 len,.slice (some ⟨sb,so,none⟩) fs.length cap] 54)=W at*;have c1:=(g4 0 (by omega)).1;have c2:=(g4 0 (by omega)).2;have hgf:=jh (hg fs[0] (List.getElem_mem (by omega)));have hst:cC len fs=len*wid fs[0]:=by
    unfold cC;rw[if_pos hp];congr 2
    cases fs with
    |nil=>simp at hone
    |cons f r=>rfl
   have hstH:=zh hst;clear hst g4 hg h h2;generalize fs[0]=f at*;obtain⟨fk,fc⟩:=f;rw[hone];simp only[Nat.zero_mul,Nat.add_zero]at c1 c2;have k1:=GW.cells (S:=[]) q0 (by simp);have k2:=GW.bR (S:=[]) c1 g2 (by simp);have k3:=GW.bR (S:=[]) c2 g2 (by simp);obtain⟨_,_,e1,e2,_⟩:=hgf;have hmul:len*wid (fk,fc)≤65536*65536:=Int.mul_le_mul h1 e2 (by omega) (by omega);have hmul0:0≤len*wid (fk,fc):=Int.mul_nonneg h0 (by omega);have hw:wrap64 (len*wid (fk,fc))=len*wid (fk,fc):=by
    generalize len*wid (fk,fc)=z at*;unfold wrap64;omega
   refine aS (by kernel_rfl) (by kernel_rfl) ?_;refine sq 6 ?_;refine b7 131 _ (.int .i64 (wid (fk,fc))) rfl Tryz.call131 rfl rfl (fun w' _=>nf fk fc w') ?_;refine sq 2 ?_;refine au fun w2 hm2=> ?_
   clear k1 k2 k3 c1 c2;go_wp2_with fail;go_ret;refine⟨?_,hm0.ag hm2⟩;rw[hstH.out];rfl
 ·have hgood:=hg;have hp1:=zh (wa v fs (-1) _ h' hg hl);obtain⟨x,y,z0,ho⟩:=nZ fs (-1) fs.length;rw[ho]at hp1;go_wp2_with fail;refine hp1.out.mono ?_;rintro e w1 ⟨rfl,hm1⟩;go_wp2_with fail;go_ret;refine⟨?_,(hm0.ag hm1).alloc _⟩;unfold cC;rw[if_neg (by omega)];rfl
theorem mZ (len:Int) (v:Value) (fs:List aM) (w:World) (h:aw w v fs) (hn: -9223372036854775808≤len) (hn2:len≤9223372036854775807):
  Calls Tryz.prog 36 #[.agg #[.int .i64 len,v]] w fun e w'=>e=.returned (.int .i64 (bS len fs))∧Mod [] w w':=by
 have q0:=an w (.cells #[.int .i64 len,v] 54);have hm0:=(Mod.refl [] w).alloc (.cells #[.int .i64 len,v] 54);have h':=h.mod hm0;have hln:=fun ty w=>h.len ty w
 have hsm:=h.small;have hE:bS len fs=if len<0 then 3 else if 65536<len then 4 else if kY len fs then 3 else if 32<fs.length then 4 else if iG fs≠0 then iG fs else if 65536<cC len fs then 4 else 0:=rfl
 by_cases t1:len<0
 ·rw[if_pos t1]at hE;rw[hE];clear hE h h';go_enter Tryz.func36,Tryz.ntmps36;go_wp2_with fail;go_ret;exact⟨rfl,hm0⟩
 ·rw[if_neg t1]at hE;by_cases t2:65536<len
  ·rw[if_pos t2]at hE;rw[hE];clear hE h h';go_enter Tryz.func36,Tryz.ntmps36;go_wp2_with fail;go_ret;exact⟨rfl,hm0⟩
  ·rw[if_neg t2]at hE;by_cases t3:kY len fs
   ·rw[if_pos t3]at hE;rw[hE];clear hE h h';rcases t3 with⟨t3,t4⟩|⟨t3,t4⟩
    ·subst t3;rw[t4]at hln;go_enter Tryz.func36,Tryz.ntmps36;go_wp2_with fail;go_ret;exact⟨rfl,hm0⟩
    ·have t5:¬(len=0):=by omega
     go_enter Tryz.func36,Tryz.ntmps36;go_wp2_with fail;go_ret;exact⟨rfl,hm0⟩
   ·rw[if_neg t3]at hE;by_cases t4:32<fs.length
    ·rw[if_pos t4]at hE;rw[hE];clear hE h h';by_cases t5:len=0
     ·subst t5;have t6:((fs.length:Int)==0)=false:=by simp only[beq_eq_false_iff_ne];omega
      clear t3;go_enter Tryz.func36,Tryz.ntmps36;go_wp2_with fail;go_ret;exact⟨rfl,hm0⟩
     ·exact absurd (.inr ⟨by omega,by omega⟩) t3
    ·rw[if_neg t4]at hE;have hEH:=zh hE;clear hE;by_cases t5:len=0
     ·subst t5;have t6:((fs.length:Int)==0)=false:=by
       simp only[beq_eq_false_iff_ne];intro e;exact t3 (.inl ⟨rfl,by omega⟩)
      have t7:(0:Int)<0→fs.length=1:=fun h=>absurd h (by omega)
      clear t3;go_enter Tryz.func36,Tryz.ntmps36;go_wp2_with fail;have hT:=zh (t7);clear t6;generalize w.alloc (.cells #[.int .i64 (0),v] 54)=W at*;go_loopw [43] (fun i wr=>∃k:Nat,k≤fs.length∧i=.int .i64 k∧Mod [] W wr∧Good (fs.take k)) (fun i _=>fs.length-(intOf i).toNat)
      case atStart=>exact⟨0,by omega,rfl,Mod.refl _ _,by simp[Good]⟩
      case round=>
       obtain⟨k,hk,rfl,hm,hgk⟩:=hrel;by_cases hlt:k<fs.length
       ·rcases h' with⟨_,rfl⟩|⟨sb,so,cap,rfl,g2,g3,g4⟩
        ·simp at hlt
        ·have c1:=(bg hm g2 (by simp)).trans (g4 k hlt).1;have c2:=(bg hm g2 (by simp)).trans (g4 k hlt).2;have hfe:=pE hlt hgk;have hgs:=p5 hlt hgk;clear g4 hgk h;generalize fs[k]=f at*;obtain⟨fk,fc⟩:=f;simp only at c1 c2;go_wp2_with fail;refine(wN fk fc _).mono ?_;rintro e w1 ⟨rfl,hm1⟩;by_cases he:bM (fk,fc)=0
         ·have hgs:=hgs he;clear hfe c1 c2;rw[he];go_wp2_with fail;go_roundw
          case rel=>exact⟨k+1,by omega,by go_num,(hm.alloc _).ag hm1,hgs⟩
          case measure=>simp[intOf];omega
         ·have hfe:=hfe he;clear hgs c1 c2;go_wp2_with fail;go_ret;refine⟨?_,(hm0.ag (hm.alloc _)).ag hm1⟩;rw[hEH.out,hfe,if_pos he];rfl
       ·obtain rfl:k=fs.length:=by omega
        rw[List.take_length]at hgk;have hr:=hm.at q0 (by simp);have cb:=ae hr;have hfirst:=nP hgk;clear h;go_wp2_with fail;refine(ni (0) v fs _ (h'.mod hm) hgk (by omega) (by omega) (by omega) hT.out).mono ?_;rintro e w1 ⟨rfl,hm1⟩;by_cases hbig:65536<cC (0) fs
        ·go_wp2_with fail;go_ret;refine⟨?_,(hm0.ag hm).ag hm1⟩;rw[hEH.out,hfirst,if_neg (by simp),if_pos hbig];rfl
        ·go_wp2_with fail;go_ret;refine⟨?_,(hm0.ag hm).ag hm1⟩;rw[hEH.out,hfirst,if_neg (by simp),if_neg (by omega)];rfl
     ·have t60:fs.length=1:=by
       by_cases e:fs.length=1
       ·exact e
       ·exact absurd (.inr ⟨by omega,e⟩) t3
      have t7:0<len→fs.length=1:=fun _=>t60
      have t8:0<len:=by omega
      have t9:=zh t7;have t6:((fs.length:Int)==1)=true:=by simp[t60]
      clear t3 t7 t60;go_enter Tryz.func36,Tryz.ntmps36;go_wp2_with fail;have hT:=zh (t9.out);clear t6;generalize w.alloc (.cells #[.int .i64 (len),v] 54)=W at*;go_loopw [43] (fun i wr=>∃k:Nat,k≤fs.length∧i=.int .i64 k∧Mod [] W wr∧Good (fs.take k)) (fun i _=>fs.length-(intOf i).toNat)
      case atStart=>exact⟨0,by omega,rfl,Mod.refl _ _,by simp[Good]⟩
      case round=>
       obtain⟨k,hk,rfl,hm,hgk⟩:=hrel;by_cases hlt:k<fs.length
       ·rcases h' with⟨_,rfl⟩|⟨sb,so,cap,rfl,g2,g3,g4⟩
        ·simp at hlt
        ·have c1:=(bg hm g2 (by simp)).trans (g4 k hlt).1;have c2:=(bg hm g2 (by simp)).trans (g4 k hlt).2;have hfe:=pE hlt hgk;have hgs:=p5 hlt hgk;clear g4 hgk h;generalize fs[k]=f at*;obtain⟨fk,fc⟩:=f;simp only at c1 c2;go_wp2_with fail;refine(wN fk fc _).mono ?_;rintro e w1 ⟨rfl,hm1⟩;by_cases he:bM (fk,fc)=0
         ·have hgs:=hgs he;clear hfe c1 c2;rw[he];go_wp2_with fail;go_roundw
          case rel=>exact⟨k+1,by omega,by go_num,(hm.alloc _).ag hm1,hgs⟩
          case measure=>simp[intOf];omega
         ·have hfe:=hfe he;clear hgs c1 c2;go_wp2_with fail;go_ret;refine⟨?_,(hm0.ag (hm.alloc _)).ag hm1⟩;rw[hEH.out,hfe,if_pos he];rfl
       ·obtain rfl:k=fs.length:=by omega
        rw[List.take_length]at hgk;have hr:=hm.at q0 (by simp);have cb:=ae hr;have hfirst:=nP hgk;clear h;go_wp2_with fail;refine(ni (len) v fs _ (h'.mod hm) hgk (by omega) (by omega) (by omega) hT.out).mono ?_;rintro e w1 ⟨rfl,hm1⟩;by_cases hbig:65536<cC (len) fs
        ·go_wp2_with fail;go_ret;refine⟨?_,(hm0.ag hm).ag hm1⟩;rw[hEH.out,hfirst,if_neg (by simp),if_pos hbig];rfl
        ·go_wp2_with fail;go_ret;refine⟨?_,(hm0.ag hm).ag hm1⟩;rw[hEH.out,hfirst,if_neg (by simp),if_neg (by omega)];rfl
end Go.Proofs.YtdehaommhbjakaaGreat.Ty
namespace Go.Proofs.YtdehaommhbjakaaGreat.Ty
open RowKit Stg
theorem fG {w:World} {b:Nat} {k c:Int} {T:TypeId} {fr:Nat×Nat} (h:w.heap[b]? =some (.cells #[.int .i64 k,.int .i64 c] T fr)):aw w (.slice (some ⟨b,0,none⟩) 1 1) [(k,c)]:=by
 refine .inr ⟨b,0,1,rfl,aL h,by simp[maxLen],fun i hi=> ?_⟩;have:i=0:=by simpa using hi
 subst this;rw[ae h,ae h];exact⟨rfl,rfl⟩
theorem aw.jy {S:List Nat} {w w':World} {v:Value} {fs:List aM} (h:aw w v fs) (hm:Mod S w w') (hS:∀x,v.ownBlock=some x→x∉S):aw w' v fs:=by
 rcases h with h|⟨sb,so,cap,rfl,h2,h3,h4⟩
 ·exact .inl h
 ·exact .inr ⟨sb,so,cap,rfl,hm.lt h2,h3,fun i hi=>⟨(bg hm h2 (hS sb rfl)).trans (h4 i hi).1,(bg hm h2 (hS sb rfl)).trans (h4 i hi).2⟩⟩
def ax (fs:List aM):List Value:=fs.flatMap fun f=>[.int .i64 f.1,.int .i64 f.2]
theorem eL:∀fs:List aM,(ax fs).length=fs.length*2
 | []=>rfl
 |f::r=>by
  have:=eL r;simp[ax]at this⊢;omega
theorem pX:∀(fs:List aM) (i:Nat) (h:i<fs.length),(ax fs)[i*2]? =some (.int .i64 fs[i].1)∧(ax fs)[i*2+1]? =some (.int .i64 fs[i].2)
 | [],i,h=>by simp at h
 |f::r,0,_=>⟨rfl,rfl⟩
 |f::r,i+1,h=>by
  have e:ax (f::r)=.int .i64 f.1:: .int .i64 f.2::ax r:=rfl;have h1:(i+1)*2=i*2+2:=by omega
  have h2:i*2+2+1=i*2+1+2:=by omega
  rw[e,h1,h2];exact pX r i (by simpa using h)
theorem mQ (fs:List aM) (f:aM):ax (fs++[f])=ax fs++[.int .i64 f.1,.int .i64 f.2]:=by simp[ax]
theorem fW {w:World} {e base n:Nat} {v:Value} {fs:List aM} (h:w.ownsRow base e 2 v n (ax fs)) (hn:n=fs.length):aw w v fs:=by
 subst hn;rcases dr h with⟨rfl,h0,_⟩|⟨g,cap,rfl,_,hg,hc,hm,hat⟩
 ·exact .inl ⟨rfl,List.eq_nil_of_length_eq_zero h0⟩
 ·refine .inr ⟨g,0,cap,rfl,hg,by omega,fun i hi=> ?_⟩;rw[Nat.zero_add];exact⟨(hat _ (by omega)).trans (pX fs i hi).1,(hat _ (by omega)).trans (pX fs i hi).2⟩
theorem rU:(Tryz.prog.info? 51).map (fun i=>(i.zero,i.size,i.bytes))=some (some (.agg #[.int .i64 0,.int .i64 0]),2,16):=by kernel_rfl
theorem tF (w:World) (a b:Value) (T:TypeId):∀j u,[a,b][j]? =some u→(w.alloc (.cells #[a,b] T)).cell? ((⟨w.heap.size,0,none⟩:Addr).add j)=some u:=by
 intro j u h;have hadd:(⟨w.heap.size,0,none⟩:Addr).add j=⟨w.heap.size,j,none⟩:=by unfold Addr.add;split<;>simp_all
 rw[hadd,ae (an w _)];simpa using h
end Go.Proofs.YtdehaommhbjakaaGreat.Ty
