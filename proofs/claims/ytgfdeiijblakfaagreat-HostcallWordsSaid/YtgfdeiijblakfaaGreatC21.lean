/- Joined contracts. No conditions. -/
import Derived.Test.YtgfdeiijblakfaaGreatCS
import Derived.Test.YtgfdeiijblakfaaGreatC13
import Derived.Test.YtgfdeiijblakfaaGreatC15
import Derived.Test.YtgfdeiijblakfaaGreatC17
import Derived.Test.YtgfdeiijblakfaaGreatC20
set_option maxHeartbeats 1600000
set_option maxRecDepth 10000
namespace Go.Proofs.YtgfdeiijblakfaaGreat
open Go Go.RowKit Go.Stg
theorem mid_perm {α:Type} (A C:List α) (x:α):(A++C++[x]).Perm (A++x::C):=by
 rw[List.append_assoc];exact(List.perm_append_comm (l₁:=C) (l₂:=[x])).append_left A
section
variable {c:HC} {k:Nat} {s:HS}
theorem entH_eq {o:Int} (h:Tb.resE s.T o=0) {j:Nat} (hj:Tb.hSlot o=j):entH s o=Tb.entN s.T.E j:=by
 unfold entH Tb.resN;rw[if_pos h,hj,Int.toNat_natCast]
theorem res_live (hI:HInv c k s) {o:Int} (h:Tb.resE s.T o=0):∃j:Nat,Tb.hSlot o=j∧j<c.n∧(Tb.slotN s.T.g.S j).2=true∧entH s o=Tb.entN s.T.E j∧(Tb.entN s.T.E j).h=o:=by
 obtain⟨j,hj,hjl,hlv,hg,ht⟩:=Tb.resE_zero h;have hl:=hI.tin.g.len;have hn:j<c.n:=by omega
 refine⟨j,hj,hn,hlv,entH_eq h hj,?_⟩;rw[(hI.tin.ok j hn hlv).2,hg,ht, ←hj];exact Tb.pack_parts o
theorem acc_res {p o acc:Int} (h:accD s p o acc=0):Tb.resE s.T o=0:=by
 unfold accD at h;by_cases c:Tb.resE s.T o=0
 ·exact c
 ·rw[if_neg c]at h;exact absurd h c
theorem slot_same {s':HS} {m:Nat} (h1:Tb.slotN s'.T.g.S m=Tb.slotN s.T.g.S m) (h2:Tb.entN s'.T.E m=Tb.entN s.T.E m):liveAt s'.T m=liveAt s.T m:=by
 unfold liveAt;rw[h1,h2]
theorem obAt_of {s:HS} {j:Nat} (h:(Tb.slotN s.T.g.S j).2=true):obAt s j=some (extE (Tb.entN s.T.E j),memH s j):=by unfold obAt;rw[liveAt_of h];rfl
theorem obAt_no {s:HS} {j:Nat} (h:(Tb.slotN s.T.g.S j).2=false):obAt s j=none:=by unfold obAt;rw[liveAt_no h];rfl
theorem inv_put (hI:HInv c k s) {o:Int} (h:Tb.resE s.T o=0) {j:Nat} (hj:Tb.hSlot o=j) {off:Int} (h0:0≤off) {b:List Int} (hfit:off+b.length≤(memH s j).length) (hb:∀x∈b,0≤x∧x≤255):
  HInv c k (putD s o off b)∧(∃A C,obs c s=A++(extE (Tb.entN s.T.E j),memH s j)::C∧obs c (putD s o off b)=A++(extE (Tb.entN s.T.E j),overlay (memH s j) off.toNat b)::C)∧hasH c (putD s o off b)=hasH c s∧usedH c (putD s o off b)=usedH c s:=by
 obtain⟨j',hj',hjn,hlv,_,_⟩:=res_live hI h;obtain rfl:j=j':=by omega
 have hml:=hI.mlen;have hby:bytesH s o=memH s j:=by unfold bytesH;rw[hj,Int.toNat_natCast]
 have hmem:∀m,memH (putD s o off b) m=if m=j then overlay (memH s j) off.toNat b else memH s m:=fun m=>by
  unfold putD;rw[hj,Int.toNat_natCast,hby];exact memH_set (T:=s.T) (by omega) m
 have hT:(putD s o off b).T=s.T:=rfl;have hus:usedH c (putD s o off b)=usedH c s:=rfl;have hhs:hasH c (putD s o off b)=hasH c s:=rfl;obtain⟨_,_,A',C',_,_,q3,q4⟩:=one_slot (s:=s) (s':=putD s o off b) hjn fun m hm=>⟨rfl,by rw[hmem,if_neg hm]⟩
 rw[obAt_of hlv]at q3;rw[obAt_of (s:=putD s o off b) hlv,hmem,if_pos rfl]at q4;have hlen:=overlay_len (l:=memH s j) (b:=b) (off:=off.toNat) (by omega);refine⟨HInv.slot hI hjn hI.tin rfl rfl rfl rfl rfl (by unfold putD;rw[List.length_set];exact hml) (fun m hm=>⟨rfl,rfl,by rw[hmem,if_neg hm]⟩) (by rw[hus];exact hI.uok) (fun hl=>⟨hI.ent _ (liveE_mem hjn hlv),?_⟩) (fun hd=> ?_) ?_ (fun b' hb' e=> ?_) (fun q=>by rw[hhs];exact hI.lim q),⟨A',C',q3,q4⟩,hhs,hus⟩
 ·rw[hmem,if_pos rfl,hlen];exact hI.mem j hjn hlv
 ·exact absurd (hlv.symm.trans hd) (by simp)
 ·rw[hmem,if_pos rfl];exact overlay_mem (hI.memB j) hb
 ·obtain⟨_,m,e2,h2,h3⟩:=hI.bor b' hb';obtain rfl:m=j:=by omega
  exact⟨h2,h3⟩
theorem alloc_zero {p tag:Int} (h:allocE c s p tag=0):Ty.lookE s.R tag=0∧Qt.fitsE c.lim (hasH c s p) (wq (roundN (sizeTag s tag)))=0∧0<s.T.g.F.length∧∃b,bestP (roundN (sizeTag s tag)) (freeH c s)=some b:=by
 unfold allocE at h;split at h
 ·cases h
 ·rename_i h1;split at h
  ·cases h
  ·rename_i h2;split at h
   ·cases h
   ·rename_i h3;split at h
    ·cases h
    ·rename_i h4;refine⟨Classical.byContradiction h1,Classical.byContradiction h2,by omega,?_⟩
     cases hb:bestP (roundN (sizeTag s tag)) (freeH c s)with
     |none=>exact absurd hb h4
     |some b=>exact⟨b,rfl⟩
structure Came (c:HC) (k:Nat) (s s':HS) (x:Ob) (p:Int):Prop where
 inv:HInv c k s'
 obs:∃A C,obs c s=A++C∧obs c s'=A++x::C
 has:∀q,hasH c s' q=if q=p then(hasH c s q).add (wq x.1.2)else hasH c s q
theorem inv_alloc (hc:c.Ok) (hI:HInv c k s) {p tag d:Int} (hp:s.st p=1) (h:allocE c s p tag=0):Tb.issOk s.T p tag∧Came c k s (allocS c s p tag d) (allocX c s tag,List.replicate (sizeTag s tag).toNat 0) p:=by
 obtain⟨ht,hf,hF,b,hb⟩:=alloc_zero h;obtain⟨htr,hty⟩:=HInv.ty hc hI tag ht;have hps:1≤p∧p≤64:=by
  rcases hI.st p with h'|⟨h',_⟩
  ·rw[h']at hp;cases hp
  ·exact h'
 have hsz:1≤sizeTag s tag∧sizeTag s tag≤65536:=size_pos hty;obtain⟨r1,r2,r3,r4⟩:=round_spec hsz.1 hsz.2;have hok:Tb.issOk s.T p tag:=⟨by have:=hI.rlen;unfold Tb.badOT;omega,hF⟩;refine⟨hok,?_⟩;obtain⟨hjn,hd,hl,he,hoth⟩:=iss_slot hI.tin hc.f1 hc.f2 (allocX c s tag).1 (allocX c s tag).2 d hok;generalize hj:Tb.pickS s.T.g.F d=j at*;have hS:allocS c s p tag d={s with T:=Tb.issT c.first s.T p tag (allocX c s tag).1 (allocX c s tag).2 d,mem:=s.mem.set j (List.replicate (sizeTag s tag).toNat 0)}:=by unfold allocS;rw[if_pos h,hj]
 have hml:=hI.mlen;rw[hS];have hmem:=fun m=>memH_set (s:=s) (j:=j) (by omega) (l:=List.replicate (sizeTag s tag).toNat 0) (T:=Tb.issT c.first s.T p tag (allocX c s tag).1 (allocX c s tag).2 d) m
 generalize hs':({s with T:=Tb.issT c.first s.T p tag (allocX c s tag).1 (allocX c s tag).2 d,mem:=s.mem.set j (List.replicate (sizeTag s tag).toNat 0)}:HS)=s' at*;have hT:s'.T=Tb.issT c.first s.T p tag (allocX c s tag).1 (allocX c s tag).2 d:=by rw[←hs']
 have hL:s'.L=s.L:=by rw[←hs']
 have hx2:(allocX c s tag).2=roundN (sizeTag s tag):=rfl;have hx1:(allocX c s tag).1=b.1:=by unfold allocX;rw[hb];rfl
 have hent:Tb.entN s'.T.E j=Tb.issEnt c.first s.T p tag (allocX c s tag).1 (allocX c s tag).2 d:=by rw[hT];exact he
 have hlj:(Tb.slotN s'.T.g.S j).2=true:=by rw[hT];exact hl
 have ho:∀m,m≠j→Tb.slotN s'.T.g.S m=Tb.slotN s.T.g.S m∧Tb.entN s'.T.E m=Tb.entN s.T.E m:=fun m hm=>by rw[hT];exact hoth m hm
 obtain⟨A,C,A',C',q1,q2,q3,q4⟩:=one_slot (s:=s) (s':=s') hjn fun m hm=>⟨slot_same (ho m hm).1 (ho m hm).2,by rw[hmem,if_neg hm]⟩
 rw[liveAt_no hd]at q1;rw[liveAt_of hlj,hent]at q2;rw[obAt_no hd]at q3;rw[obAt_of hlj,hent,hmem,if_pos rfl]at q4;have hhas:∀q,hasH c s' q=if q=p then(hasH c s q).add (wq (allocX c s tag).2)else hasH c s q:=fun q=>by
  unfold hasH;rw[q1,q2,hL];exact has_ins (e:=Tb.issEnt c.first s.T p tag (allocX c s tag).1 (allocX c s tag).2 d) q
 have hpx:proper (allocX c s tag)∧b∈freeH c s∧(allocX c s tag).1+(allocX c s tag).2≤b.1+b.2:=by
  obtain⟨m1,m2⟩:=best_some hb;have:=(hI.uok.free hc.s1).vs.1 b m1;unfold proper at*;refine⟨?_,m1,?_⟩
  ·rw[hx1,hx2];omega
  ·rw[hx1,hx2];omega
 obtain⟨D,G,hDG⟩:=List.append_of_mem hpx.2.1;have hfree:=hI.uok.free hc.s1;have hfree':FreeOf c.size (usedH c s) (D++b::G):=by rw[←hDG];exact hfree
 obtain⟨_,hu⟩:=hfree'.alloc hI.uok hpx.1 (by rw[hx1];omega) hpx.2.2;have hus:UsedOk c.size (usedH c s'):=by
  refine hu.perm ?_;rw[←obs_used, ←obs_used,q3,q4];simp only[Option.toList,List.cons_append,List.nil_append,List.map_append,List.map_cons];exact mid_perm _ _ _
 refine⟨HInv.slot hI hjn (by rw[hT];exact hI.tin.issue hc.f1 hc.f2 p tag _ _ d) (by rw[←hs']) (by rw[←hs']) hL (by rw[←hs']) (by rw[←hs']) (by rw[←hs'];simp only[List.length_set];exact hml) (fun m hm=>⟨(ho m hm).1,(ho m hm).2,by rw[hmem,if_neg hm]⟩) hus (fun _=> ?_) (fun hdd=> ?_) ?_ (fun b' hb' e=> ?_) (fun q=> ?_),⟨A',C',q3,?_⟩,hhas⟩
 ·rw[hent,hmem,if_pos rfl];refine⟨⟨hp,htr,rfl⟩,?_⟩;simp only[List.length_replicate,Tb.issEnt];omega
 ·exact absurd (hlj.symm.trans hdd) (by simp)
 ·rw[hmem,if_pos rfl];intro x hx;rw[List.eq_of_mem_replicate hx];omega
 ·obtain⟨_,m,e2,h2,_⟩:=hI.bor b' hb';obtain rfl:m=j:=by omega
  rw[hd]at h2;cases h2
 ·rw[hhas q];by_cases e:q=p
  ·rw[if_pos e,e,hx2];exact fits_le hf
  ·rw[if_neg e];exact hI.lim q
 ·exact q4
end
end Go.Proofs.YtgfdeiijblakfaaGreat
namespace Go.Proofs.YtgfdeiijblakfaaGreat
open Go Go.RowKit Go.Stg
section
variable {c:HC} {k:Nat} {s:HS}
theorem HInv.led (hI:HInv c k s) {L':List Bw.Bor} {k':Nat} (hkk:k≤k') (h1:Bw.LInv k' L') (h2:L'.length≤k') (hb:∀b∈L',s.st b.1.2=1∧∃j:Nat,b.1.1=j∧(Tb.slotN s.T.g.S j).2=true∧(Tb.entN s.T.E j).owner≠b.1.2) (hl:∀p,leQ (hasH c {s with L:=L'} p) c.lim):HInv c k' {s with L:=L'}:=
 ⟨hI.tin,h1,h2,hI.rok,hI.rlen,Nat.le_trans hI.evk hkk,hI.evok,Nat.le_trans hI.missk hkk,hI.uok,hI.ent,hI.mlen,hI.mem,hI.memB,hI.dead,hb,hl,hI.st⟩
theorem HInv.up (hI:HInv c k s) {k':Nat} (h:k≤k'):HInv c k' s:=by
 have:=hI.led (L':=s.L) h (hI.lin.up (by omega)) (Nat.le_trans hI.llen h) hI.bor hI.lim;exact this
theorem inv_ev (hI:HInv c k s) {e:Ev} (he:e.ok):HInv c (k+1) {s with evs:=s.evs++[e]}:=by
 have h:=hI.up (Nat.le_succ k);exact⟨h.tin,h.lin,h.llen,h.rok,h.rlen,by simp;exact hI.evk,fun x hx=>by
  rcases List.mem_append.1 hx with hx|hx
  ·exact hI.evok x hx
  ·rw[List.mem_singleton.1 hx];exact he,h.missk,h.uok,h.ent,h.mlen,h.mem,h.memB,h.dead,h.bor,h.lim,h.st⟩
theorem inv_miss (hI:HInv c k s) (p:Int):HInv c (k+1) {s with miss:=s.miss++[p]}:=by
 have h:=hI.up (Nat.le_succ k);exact⟨h.tin,h.lin,h.llen,h.rok,h.rlen,h.evk,h.evok,by simp;exact hI.missk,h.uok,h.ent,h.mlen,h.mem,h.memB,h.dead,h.bor,h.lim,h.st⟩
theorem inv_log (hI:HInv c k s) {e:Ev} (he:e.ok):HInv c (k+1) (logA c s e):=by
 unfold logA;split
 ·exact inv_ev hI he
 ·exact inv_miss hI e.p
end
end Go.Proofs.YtgfdeiijblakfaaGreat
namespace Go.Proofs.YtgfdeiijblakfaaGreat.Bw
open Go Go.RowKit Go.Stg
def CntAt (es:Array MapEntry) (L:List Bor):Prop:=IKeys es.toList∧∀o,mget o es.toList=if ofO L o=[]then none else some (.int .i64 ((ofO L o).length:Nat))
theorem CntAt.is {w:World} {c ck:Nat} {es:Array MapEntry} {L:List Bor} (h:CntAt es L) (hb:w.heap[c]? =some (.map es ck)):CntIs w c L:=⟨es,ck,hb,h.1,h.2⟩
theorem CntIs.at {w:World} {c:Nat} {L:List Bor} (h:CntIs w c L):∃es ck,w.heap[c]? =some (.map es ck)∧CntAt es L:=let ⟨es,ck,h1,h2,h3⟩:=h;⟨es,ck,h1,h2,h3⟩
theorem nil_len {α:Type} (l:List α):l=[]↔l.length=0:=by cases l<;>simp
theorem CntAt.same {es:Array MapEntry} {L M:List Bor} (h:CntAt es L) (he:∀o,(ofO M o).length=(ofO L o).length):CntAt es M:=by
 refine⟨h.1,fun o=> ?_⟩;rw[h.2 o,he o];simp only[nil_len,he o]
theorem CntIs.same {w:World} {c:Nat} {L M:List Bor} (h:CntIs w c L) (he:∀o,(ofO M o).length=(ofO L o).length):CntIs w c M:=by
 obtain⟨es,ck,h1,h2⟩:=h.at;exact(h2.same he).is h1
theorem CntAt.nil:CntAt #[] []:=⟨trivial,fun _=>rfl⟩
theorem CntAt.get {es:Array MapEntry} {L:List Bor} (h:CntAt es L) (o:Int):(mget o es.toList).getD (.int .i64 0)=.int .i64 ((ofO L o).length:Nat):=by
 rw[h.2 o];split
 ·rename_i h;rw[h];rfl
 ·rfl
theorem CntAt.less {es:Array MapEntry} {L M:List Bor} (h:CntAt es L) {o:Int} (he:∀q,(ofO L q).length=(if o=q then 1 else 0)+(ofO M q).length) (ck:Nat) {n:Int} (hn:n=(ofO L o).length-1) (h0:n≠0):CntAt (mput o (.int .i64 n) ck es).1 M:=by
 obtain⟨h1,h2⟩:=mput_spec o (.int .i64 n) ck es h.1;refine⟨h1,fun q=> ?_⟩;rw[h2 q];have hq:=he q;by_cases hqo:q=o
 ·subst hqo;rw[if_pos rfl]at hq⊢;rw[if_neg (by rw[nil_len];omega)];rw[show n=((ofO M q).length:Int)from by omega]
 ·rw[if_neg (fun e=>hqo e.symm)]at hq;rw[if_neg hqo,h.2 q];simp only[nil_len,hq,Nat.zero_add]
theorem CntAt.last {es:Array MapEntry} {L M:List Bor} (h:CntAt es L) {o:Int} (he:∀q,(ofO L q).length=(if o=q then 1 else 0)+(ofO M q).length) (ck:Nat) (v:Value) (hn:(ofO L o).length=1):CntAt (mdel o (mput o v ck es).1) M:=by
 obtain⟨h1,h2⟩:=mput_spec o v ck es h.1;obtain⟨k1,k2⟩:=mdel_spec o _ h1;refine⟨k1,fun q=> ?_⟩;rw[k2 q,h2 q];have hq:=he q;by_cases hqo:q=o
 ·subst hqo;rw[if_pos rfl]at hq⊢;rw[if_pos (by rw[nil_len];omega)]
 ·rw[if_neg (fun e=>hqo e.symm)]at hq;rw[if_neg hqo,if_neg hqo,h.2 q];simp only[nil_len,hq,Nat.zero_add]
theorem LedAt.of {w:World} {b a c:Nat} {bs L:List Bor} (h1:w.heap[b]? =some (.cells #[.map (some a),.map (some c)] 91 (0,0))) (h2:a≠b) (h3:c≠b) (h4:a≠c) (h5:MapIs w a bs) (h6:bs.Perm L) (h7:CntIs w c L):LedAt w b L [b,a,c]:=
 .inr ⟨a,c,bs,h1,h2,h3,h4,h5,h6,h7,rfl⟩
theorem MapIs.empty {w:World} {a:Nat} (h:w.heap[a]? =some (.map #[] 0)):MapIs w a []:=⟨#[],0,h,⟨rfl,rfl⟩,by simp,by simp⟩
theorem upd_any {w:World} {c ck:Nat} {es:Array MapEntry} {o n:Int} (hb:w.heap[c]? =some (.map es ck)) (h:IKeys es.toList):∃w',(Instr.mapUpdate 89 (.map (some c)) (.int .i64 o) (.int .i64 n)).run Tryz.prog w=.ok () w'∧w'.heap[c]? =some (.map (mput o (.int .i64 n) ck es).1 (mput o (.int .i64 n) ck es).2)∧Mod [c] w w'∧w'.heap.size=w.heap.size:=
 ⟨_,run_update_int Tryz.underlying89 Tryz.underlying3 hb h o (.int .i64 n),at_setMap hb,(Mod.refl _ w).setMap (.inl (by simp)) _,by simp⟩
end Go.Proofs.YtgfdeiijblakfaaGreat.Bw
namespace Go.Proofs.YtgfdeiijblakfaaGreat.Bw
open Go Go.RowKit Go.Stg
theorem new_ok (w:World):Calls Tryz.prog 14 #[] w fun e w'=>e=.returned (.pointer (some ⟨w.heap.size,0,none⟩))∧Mod [] w w'∧(ledC w.heap.size []).on w' [w.heap.size]:=by
 go_enter Tryz.func14,Tryz.ntmps14;go_wp2_with fail;go_ret;exact⟨rfl,(Mod.refl _ _).alloc _,.inl ⟨at_alloc _ _,rfl,rfl⟩⟩
theorem Takes.same {c:Comp} {v:Value} {w w':World} {f:List Nat} (h:c.on w f) (hm:Mod [] w w'):Takes c v w f (.returned v) w':=
 ⟨f,rfl,c.keep h hm (by simp),hm.mono (by simp),fun _ hx=>.inl hx⟩
end Go.Proofs.YtgfdeiijblakfaaGreat.Bw
namespace Go.Proofs.YtgfdeiijblakfaaGreat.Bw
open Go Go.RowKit Go.Stg
theorem del_any {w:World} {c ck:Nat} {es:Array MapEntry} {o:Int} (ty:TypeId) (hb:w.heap[c]? =some (.map es ck)) (h:IKeys es.toList):∃w',(Builtin.delete_ #[89,3] ty #[.map (some c),.int .i64 o]).run Tryz.prog w=.ok (.tuple #[]) w'∧w'.heap[c]? =some (.map (mdel o es) ck)∧Mod [c] w w':=
 ⟨_,run_delete_int Tryz.underlying89 Tryz.underlying3 hb h o #[89,3] rfl,at_setMap hb,(Mod.refl _ w).setMap (.inl (by simp)) _⟩
theorem remove_ok {w:World} {b:Nat} {L:List Bor} {f:List Nat} (h:(ledC b L).on w f) (hS:Srt L) (hl:L.length≤1000000) {x:Bor} (yo yh ym yc:Int) (hg:getB L (yo,yh)=some x):
  Calls Tryz.prog 144 #[.pointer (some ⟨b,0,none⟩),.agg #[.int .i64 yo,.int .i64 yh,.int .i64 ym,.int .i64 yc]] w (Takes (ledC b (without L (yo,yh))) (.tuple #[]) w f):=by
 rcases h with⟨hb,hL,rfl⟩|⟨a,c,bs,hb,hab,hcb,hac,hM,hp,hC,rfl⟩
 ·subst hL;cases hg
 ·obtain⟨es,ck,hc,hCA⟩:=hC.at;have hse:=Lib.hid fun q=>ofO_without hS.nodup hg q
  have hnod:=Lib.hid (((hp.map (·.1)).nodup_iff).2 hS.nodup);have hol:(ofO L yo).length≤L.length:=List.length_filter_le _ _;have hlk:=hCA.get yo;have hn1:1≤(ofO L yo).length:=by have:=ofO_without hS.nodup hg yo;rw[if_pos rfl]at this;omega
  obtain⟨n,hn⟩:∃n:Int,n=((ofO L yo).length:Nat):=⟨_,rfl⟩;have hnb:1≤n∧n≤1000000:=by omega
  rw[←hn]at hlk;have hlkH:=Lib.hid hlk;have hnH:=Lib.hid hn;have hpH:=Lib.hid hp;have hCAH:=Lib.hid hCA;have h1b:=Lib.hid (at_alloc_old (o:=.cells #[.int .i64 yo,.int .i64 yh,.int .i64 ym,.int .i64 yc] 187) hb);have h1y:=Lib.hid (at_alloc w (.cells #[.int .i64 yo,.int .i64 yh,.int .i64 ym,.int .i64 yc] 187));have h1M:=Lib.hid (hM.mod ((Mod.refl [] w).alloc (.cells #[.int .i64 yo,.int .i64 yh,.int .i64 ym,.int .i64 yc] 187)) (by simp));have h1c:=Lib.hid (at_alloc_old (o:=.cells #[.int .i64 yo,.int .i64 yh,.int .i64 ym,.int .i64 yc] 187) hc);have h1m:=Lib.hid ((Mod.refl [b,a,c] w).alloc (.cells #[.int .i64 yo,.int .i64 yh,.int .i64 ym,.int .i64 yc] 187));have hay:=hM.lt;have hcy:=lt_of hc;have hab':=Lib.hid hab;have hcb':=Lib.hid hcb;have hac':=Lib.hid hac;clear hS hg hp hCA hlk hn hb hM hC hc hol hn1 hl hab hcb hac;have hab:=Lib.hid hab'.out;have hcb:=Lib.hid hcb'.out;have hac:=Lib.hid hac'.out;clear hab' hcb' hac';go_enter Tryz.func144,Tryz.ntmps144;go_wp2_with fail;generalize hyb:w.heap.size=y at*;generalize w.alloc (.cells #[.int .i64 yo,.int .i64 yh,.int .i64 ym,.int .i64 yc] 187)=W0 at*;have q1:=GW.cells (S:=[a]) h1b.out (by simpa using hab.out.symm);have q2:=GW.cells (S:=[a]) h1y.out (by simpa using Nat.ne_of_gt hay);refine wp_region_stage (fun w'=>∃x:GW [a] W0,w'=x.1) (fun w'=>Mod [] W0 w') (by kernel_rfl) (by kernel_rfl) (fun _ h=>InGW.of (h.mono (by simp))) (Mod.refl _ _).drew ?_;refine stage_quiet 9 (by kernel_rfl) ?_;simp only[tA,tB,tC,tD];(repeat go_big_quiet_step (fail));refine wpQuiet_nil ?_;refine stage_del (fun w'=>Mod [a] W0 w'∧∃bs',MapIs w' a bs'∧bs'.Perm (without bs (yo,yh))) rfl rfl rfl rfl (fun w' h=> ?_) (fun _ h=>InGW.of h.1) ?_
  ·obtain⟨w4,bs',hr,hM,hmd,hsz,hp⟩:=del_b (h1M.out.mod h (by simp)) hnod.out (yo,yh) _;exact⟨w4,hr,(h.mono (by simp)).trans hmd,bs',hM,hp⟩
  simp only[Act.put];refine stage_nil fun W1 hm1=> ?_
  obtain⟨hm1,bs1,hM1,hp1⟩:=hm1;have hmAA:=Lib.hid hm1;have h2b:=Lib.hid (hm1.at h1b.out (by simpa using hab.out.symm));have h2y:=Lib.hid (hm1.at h1y.out (by simpa using Nat.ne_of_gt hay));have h2c:=Lib.hid (hm1.at h1c.out (by simpa using hac.out.symm));have h2M:=Lib.hid hM1;have hp1H:=Lib.hid hp1;have h2m:=Lib.hid (h1m.out.then hm1 (fun x hx=>.inl (by simp at hx;simp[hx])));clear q1 q2 hm1 hM1 hp1 hmAA h1b h1y h1c h1m h1M;go_wp2_with fail;have q1:=GW.cells (S:=[]) h2b.out (by simp);have q2:=GW.cells (S:=[]) h2y.out (by simp);have q3:∀x:GW [] W1,(Instr.lookup 89 (.map (some c)) (.int .i64 yo) false).run Tryz.prog x.1=.ok (.int .i64 n) x.1:=fun x=>by
   rw[run_lookup_int Tryz.underlying89 Tryz.underlying3 Tryz.zeroValue3 (x.2.at h2c.out (by simp)) hCAH.out.1,hlkH.out]
  refine wp_region_stage (fun w'=>∃x:GW [] W1,w'=x.1) (fun w'=>Mod [] W1 w') (by kernel_rfl) (by kernel_rfl) (fun _ h=>InGW.of h) (Mod.refl _ _).drew ?_;refine stage_quiet 8 (by kernel_rfl) ?_;simp only[tA,tB,tC,tD];(repeat go_big_quiet_step (fail));refine wpQuiet_nil ?_;refine stage_putLast (fun w'=>Mod [c] W1 w'∧w'.heap[c]? =some (.map (mput yo (.int .i64 (n-1)) ck es).1 (mput yo (.int .i64 (n-1)) ck es).2)) rfl rfl (by kernel_rfl) rfl rfl rfl rfl (fun w' h=> ?_) ?_
  ·obtain⟨w4,hr,h4,hmd,_⟩:=upd_any (o:=yo) (n:=n-1) (h.at h2c.out (by simp)) hCAH.out.1;exact⟨w4,hr,(h.mono (by simp)).trans hmd,h4⟩
  rintro W2 ⟨hm2,hc2⟩;have h3b:=Lib.hid (hm2.at h2b.out (by simpa using hcb.out.symm));have h3y:=Lib.hid (hm2.at h2y.out (by simpa using Nat.ne_of_gt hcy));have h3c:=Lib.hid hc2;have h3M:=Lib.hid (h2M.out.mod hm2 (by simpa using hac.out));have h3m:=Lib.hid (h2m.out.then hm2 (fun x hx=>.inl (by simp at hx;simp[hx])));have hk3:=mput_spec yo (.int .i64 (n-1)) ck es hCAH.out.1;have hk3H:=Lib.hid hk3;clear q1 q2 q3 hm2 hc2 h2b h2y h2c h2m h2M hk3;go_wp2_with fail;have q1:=GW.cells (S:=[]) h3b.out (by simp);have q2:=GW.cells (S:=[]) h3y.out (by simp);have q3:∀x:GW [] W2,(Instr.lookup 89 (.map (some c)) (.int .i64 yo) false).run Tryz.prog x.1=.ok (.int .i64 (n-1)) x.1:=fun x=>by
   rw[run_lookup_int Tryz.underlying89 Tryz.underlying3 Tryz.zeroValue3 (x.2.at h3c.out (by simp)) hk3H.out.1,hk3H.out.2,if_pos rfl];rfl
  by_cases h1:n=1
  ·subst h1;refine wp_region_pure (by kernel_rfl) (by kernel_rfl) ?_;refine stage_quiet 8 (by kernel_rfl) ?_;simp only[tA,tB,tC,tD];(repeat go_big_quiet_step (fail));refine wpQuiet_nil ?_;refine stage_nil fun W3 hm3=> ?_
   have h4b:=Lib.hid (hm3.at h3b.out (by simp));have h4y:=Lib.hid (hm3.at h3y.out (by simp));have h4c:=Lib.hid (hm3.at h3c.out (by simp));have h4M:=Lib.hid (h3M.out.mod hm3 (by simp));have h4m:=Lib.hid (h3m.out.nil_then hm3);clear q1 q2 q3 hm3 h3b h3y h3c h3m h3M;go_wp2_with fail;have q1:=GW.cells (S:=[c]) h4b.out (by simpa using hcb.out.symm);have q2:=GW.cells (S:=[c]) h4y.out (by simpa using Nat.ne_of_gt hcy);refine wp_region_stage (fun w'=>∃x:GW [c] W3,w'=x.1) (fun w'=>Mod [] W3 w') (by kernel_rfl) (by kernel_rfl) (fun _ h=>InGW.of (h.mono (by simp))) (Mod.refl _ _).drew ?_;refine stage_quiet 6 (by kernel_rfl) ?_;simp only[tA,tB,tC,tD];(repeat go_big_quiet_step (fail));refine wpQuiet_nil ?_;refine stage_del (fun w'=>Mod [c] W3 w'∧w'.heap[c]? =some (.map (mdel yo (mput yo (.int .i64 (1-1)) ck es).1) (mput yo (.int .i64 (1-1)) ck es).2)) rfl rfl rfl rfl (fun w' h=> ?_) (fun _ h=>InGW.of h.1) ?_
   ·obtain⟨w4,hr,h4,hmd⟩:=del_any (o:=yo) _ (h.at h4c.out (by simp)) hk3H.out.1;exact⟨w4,hr,(h.mono (by simp)).trans hmd,h4⟩
   simp only[Act.put];refine stage_nil fun W4 hm4=> ?_
   obtain⟨hm4,hc4⟩:=hm4;have hbF:=Lib.hid (hm4.at h4b.out (by simpa using hcb.out.symm));have hMF:=Lib.hid (h4M.out.mod hm4 (by simpa using hac.out));have hmFF:=Lib.hid (h4m.out.then hm4 (fun x hx=>.inl (by simp at hx;simp[hx])));have hcF:=Lib.hid hc4;clear q1 q2 hm4 hc4;go_wp2_with fail;go_end0;have hcnt:=hCAH.out.last (o:=yo) hse.out ck (.int .i64 (1-1)) (by have:=hnH.out;omega);refine⟨[b,a,c],rfl,LedAt.of hbF.out hab.out hcb.out hac.out hMF.out (hp1H.out.trans (hpH.out.filter _)) (hcnt.is hcF.out),hmFF.out,fun x hx=>.inl hx⟩
  ·have z:(n-1==0)=false:=by simp;omega
   refine wp_region_pure (by kernel_rfl) (by kernel_rfl) ?_;refine stage_quiet 8 (by kernel_rfl) ?_;simp only[tA,tB,tC,tD];(repeat go_big_quiet_step (fail));refine wpQuiet_nil ?_;refine stage_nil fun W3 hm3=> ?_
   have hbF:=Lib.hid (hm3.at h3b.out (by simp));have hcF:=Lib.hid (hm3.at h3c.out (by simp));have hMF:=Lib.hid (h3M.out.mod hm3 (by simp));have hmFF:=Lib.hid (h3m.out.nil_then hm3);clear q1 q2 q3 hm3;go_wp2_with fail;go_end0;have hcnt:=hCAH.out.less (o:=yo) hse.out ck (n:=n-1) (by have:=hnH.out;omega) (by omega);refine⟨[b,a,c],rfl,LedAt.of hbF.out hab.out hcb.out hac.out hMF.out (hp1H.out.trans (hpH.out.filter _)) (hcnt.is hcF.out),hmFF.out,fun x hx=>.inl hx⟩
end Go.Proofs.YtgfdeiijblakfaaGreat.Bw
namespace Go
namespace Stg
theorem Scene.takes {c':Comp} {w w':World} {f:List Nat} {v:Value} (h:Scene f w [c'] w'):Takes c' v w f (.returned v) w':=by
 obtain⟨h1,fp,⟨f',g,k1,k2,_,rfl⟩,h3⟩:=h;exact⟨f',rfl,k1,h1,fun x hx=>h3 x (List.mem_append_left _ hx)⟩
end Stg
end Go
namespace Go.Proofs.YtgfdeiijblakfaaGreat.Bw
open Go Go.RowKit Go.Stg
end Go.Proofs.YtgfdeiijblakfaaGreat.Bw
