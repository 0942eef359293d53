/- Joined contracts. No conditions. -/
import Derived.Test.YtdehaommhbjakaaGreatC21
set_option maxHeartbeats 8000000
set_option maxRecDepth 10000
namespace Go.Proofs.YtdehaommhbjakaaGreat.Ty
open RowKit Stg
def lJ (rb:Nat) (xs:Array Value) (T:TypeId) (sv:Value) (L:List (Ty×Value)):List ai:=
 [kR 9 rb xs T sv,aT sv L.length 54 2 (flat bZ L),gh L]
def Gs (rb:Nat) (xs:Array Value) (T:TypeId) (R:List Ty) (w:World) (f:List Nat):Prop:=∃sv L,L.map (·.1)=R∧(∀t∈R,du t)∧R.length≤255∧aU (lJ rb xs T sv L) w f
def o5 (rb:Nat) (xs:Array Value) (T:TypeId) (R:List Ty):ai:=
 ⟨Gs rb xs T R,fun⟨sv,L,h1,h2,h3,h4⟩ hm hT=>⟨sv,L,h1,h2,h3,h4.bj hm hT⟩,fun⟨_,_,_,_,_,h4⟩=>h4.lt⟩
theorem mT {rb:Nat} {xs:Array Value} {T:TypeId} {R:List Ty} {sv v:Value} {L:List (Ty×Value)} {f:List Nat} {w w':World} {e:Ending} (he:e=.returned v) (h:af f w (lJ rb xs T sv L) w') (h1:L.map (·.1)=R) (h2:∀t∈R,du t) (h3:R.length≤255):bD (o5 rb xs T R) v w f e w':=by
 obtain⟨f',k1,k2,k3⟩:=h.done;exact⟨f',he,⟨sv,L,h1,h2,h3,k1⟩,k2,k3⟩
theorem zR {rb:Nat} {xs:Array Value} {T:TypeId} {R:List Ty} {w:World} {f:List Nat} (h:(o5 rb xs T R).on w f) (len:Int) (v:Value) (fs:List aM) (hF:aw w v fs) (hn: -9223372036854775808≤len) (hn2:len≤9223372036854775807):
  Calls Tryz.prog 48 #[.pointer (some ⟨rb,9,none⟩),.agg #[.int .i64 len,v]] w (bD (o5 rb xs T (da R (len,fs))) (iy R (len,fs)) w f):=by
 obtain⟨sv,L,hLR,hok,h255,hH⟩:=h;have hS:=(af.start hH).alloc (.cells #[.int .i64 len,v] 54);have hFA:=hF.mod ((Mod.refl [] w).alloc (.cells #[.int .i64 len,v] 54));have hC:=zh (r9 len v fs _ hFA hn hn2);have hlenR:L.length=R.length:=by rw[←hLR,List.length_map]
 have hlenH:=zh hlenR;have hL255:L.length≤255:=by omega
 have hbox:=hS.block 0 rfl;have cbox:=ae hbox;have hSH:=zh hS;have hFH:=zh hFA;have hokH:=zh hok;have hLRH:=zh hLR;clear hS hFA hF hH hok hLR hbox hlenR;generalize hR':da R (len,fs)=R';generalize hV':iy R (len,fs)=V';have hR'H:=zh hR';have hV'H:=zh hV';clear hR' hV';go_enter Tryz.func48,Tryz.ntmps48;go_wp2_with fail;generalize hbx:w.heap.size=bx at*;generalize w.alloc (.cells #[.int .i64 len,v] 54)=W0 at*;refine hC.out.mono ?_;rintro e w1 ⟨rfl,hm1⟩;have hS1:=zh (hSH.out.then hm1);have hF1:=zh (hFH.out.mod hm1);clear hC hSH hFH hm1 cbox;by_cases he:bS len fs=0
 ·rw[he];have hfl:fs.length≤32:=(du.bounds (t:=(len,fs)) he).2.2;have heH:=zh he;clear he;go_wp2_with fail;go_loopw [7] (fun i wr=>∃k:Nat,k≤L.length∧i=.int .i64 k∧Mod [] w1 wr∧(len,fs)∉(L.map (·.1)).take k) (fun i _=>L.length-(intOf i).toNat)
  case atStart=>exact⟨0,by omega,rfl,Mod.refl _ _,by simp⟩
  case round=>
   obtain⟨k,hk,rfl,hm,hno⟩:=hrel;have hnoH:=zh hno;clear hno;have hSW:=zh (hS1.out.then hm);have hFW:=zh (hF1.out.mod hm);have hb0:=hSW.out.block 0 rfl;have hb1:=hSW.out.site 1 rfl;have hb0H:=zh hb0;have hb1H:=zh hb1;have hrow:=hSW.out.row 2 rfl;have hln:=fun ty w=>fY (ty:=ty) Tryz.underlying63 hrow w
   have hcb:=hb1.cell;by_cases hk1:k<L.length
   ·obtain⟨g,cap,rfl,hg,r0,r1⟩:=qf hrow rfl hk1;have hFk:=zh (pn 3 hSW.out rfl _ (List.getElem_mem hk1));have hHere:=zh fun he=>wG (R:=L.map (·.1)) (by simpa using hk1) hnoH.out he
    have hNext:L[k].1≠(len,fs)→(len,fs)∉(L.map (·.1)).take (k+1):=fun hne hmem=>by
     rw[jJ _ (show k<(L.map (·.1)).length by simpa using hk1)]at hmem;rcases List.mem_append.1 hmem with h|h
     ·exact hnoH.out h
     ·rw[List.mem_singleton,List.getElem_map]at h;exact hne h.symm
    have hNextH:=zh hNext;have hge:(L.map (·.1))[k]'(by simpa using hk1)=L[k].1:=List.getElem_map _;have hgeH:=zh hge;have k1:=GW.cells (S:=[]) hb0 (by simp);have k2:=GW.site (S:=[]) hb1 (by simp);have k3:=GW.bR (S:=[]) r0 hg (by simp);have k4:=GW.bR (S:=[]) r1 hg (by simp);clear hNext hge hb0 hb1 hrow r0 r1;go_wp2_with fail;clear hcb hln;refine aS (by kernel_rfl) (by kernel_rfl) ?_;refine sq 8 ?_;refine b7 94 _ (.bool (decide (L[k].1.1=len∧L[k].1.2=fs))) rfl Tryz.call94 rfl rfl (fun w' h=>EV L[k].1.1 len L[k].2 v L[k].1.2 fs w' (hFk.out.mod h) (hFW.out.mod h)) ?_;simp only[Act.put,sA,sB,sC];refine au fun w9 hm9=> ?_
    clear k1 k2 k3 k4;have hm2:=hm.ag hm9;by_cases he:L[k].1.1=len∧L[k].1.2=fs
    ·have hd:decide (L[k].1.1=len∧L[k].1.2=fs)=true:=decide_eq_true he;rw[hd];have het:L[k].1=(len,fs):=Prod.ext he.1 he.2;have hmem:(len,fs)∈R:=by rw[←hLRH.out, ←het];exact List.mem_map_of_mem (List.getElem_mem hk1)
     have hi:=hHere.out (hgeH.out.trans het);rw[hLRH.out]at hi;unfold lO at hi;rw[if_pos hmem]at hi;obtain⟨k1,k2⟩:=vQ (t:=(len,fs)) heH.out hmem;have eR:=hR'H.out.symm.trans k1;have eV:=hV'H.out.symm.trans k2;subst eR eV;clear hR'H hV'H;have hiH:=zh hi;clear hd he het hmem k1 k2 hi;go_wp2_with fail;go_ret2;refine mT ?_ ((hS1.out.then hm2).erase 0) hLRH.out hokH.out h255;rw[hiH.out];rfl
    ·have hd:decide (L[k].1.1=len∧L[k].1.2=fs)=false:=decide_eq_false he;rw[hd];have hN:=zh (hNextH.out fun e=>he ⟨by rw[e],by rw[e]⟩);clear hd he;go_wp2_with fail;go_roundw
     case rel=>exact⟨k+1,by omega,by go_num,hm2,hN.out⟩
     case measure=>simp[intOf];omega
   ·have hno:(len,fs)∉R:=by
     have:=hnoH.out;rw[List.take_of_length_le (by simp;omega),hLRH.out]at this;exact this
    obtain rfl:k=L.length:=by omega
    by_cases hl:R.length<255
    ·have hl2:L.length<255:=by have:=hlenH.out;omega
     obtain⟨k1,k2⟩:=yz (t:=(len,fs)) heH.out hno hl;have eR:=hR'H.out.symm.trans k1;have eV:=hV'H.out.symm.trans k2;subst eR eV;clear hR'H hV'H;clear k1 k2 hno hb0 hb1;go_wp2_with fail;have k1:=GW.cells (S:=[]) hb0H.out (by simp);have k2:=GW.site (S:=[]) hb1H.out (by simp);have hrowH:=zh hrow;have htone:=zh (fun w' (hm':Mod [] wr w')=>B4 (w:=w') (L:=L) (pn 3 (hSW.out.then hm') rfl));clear hcb hln hrow hk1;obtain⟨i0,hi0,hi1,hi2,hi3⟩:=info_parts wg;obtain⟨j0,hj0,hj1,hj2,hj3⟩:=info_parts rU;generalize wr=W at*;refine iQ 9 _ (fun w'=>∃x:GW [] W,w'=x.1) (fun w'=>Mod [] W w') (by kernel_rfl) rfl rfl (by kernel_rfl) (by kernel_rfl) (fun _ h=>ah.of h) (Mod.refl _ _).drew ?_;dsimp only[List.getElem_toArray,List.getElem_cons_succ,List.getElem_cons_zero];refine dd 1 (by kernel_rfl) (by decide) ?_;simp only[tA,tB,tC,tD,Nat.reduceAdd];(repeat go_big_quiet_step (fail));refine wpQuiet_nil ?_;refine fh (by decide) rfl rfl ?A rfl (by simp) ?B
     case A=>
      refine sj (fun s=>.slice (some ⟨s,0,none⟩) 0 0) (.cells #[] 54 (0,0)) (fun s w'=>Mod [] W w'∧W.heap.size≤s∧w'.heap[s]? =some (.cells #[] 54 (0,0))) (by intro s s' h;simpa using h) (fun w' hw=> ?_) (fun w' hw=>⟨hw.alloc _,hw.size,an _ _⟩) (fun s w' h=>ah.of h.1) (fun s=> ?_)
      ·kernel_rfl
      simp only[Act.put,sA,sB,sC];refine dd 4 (by kernel_rfl) (by decide) ?_;simp only[tA,tB,tC,tD,Nat.reduceAdd];(repeat go_big_quiet_step (fail));refine wpQuiet_nil ?_;refine fh (by decide) rfl rfl ?A2 rfl (by simp) ?B2
      case A2=>
       refine oI (fun u=>∃a m c,u=.slice a m c) (fun u w'=>Mod [] W w'∧w'.ownsRow W.heap.size 54 2 u L.length (flat bZ L)) ⟨_,none,0,0,rfl⟩ (fun w' hw=> ?_) (fun u w' h=>ah.of h.1) (fun u hu=> ?_)
       ·obtain⟨g1,g2,g3⟩:=hw;have hfr:=lz g3 0 2 (Nat.zero_le _);obtain⟨v',w3,hr,r2,r3,r4⟩:=ij (P:=Tryz.prog) w' 63 63 54 i0 (.agg #[.int .i64 0,.slice none 0 0]) 2 32 Tryz.underlying63 hi0 hi1 hi2 hi3 rfl (by decide) _ 0 [] hfr sv L.length (flat bZ L) (lF (aG hrowH.out g1 (by simp))) (gZ nR L) (htone.out w' g1) (by unfold maxLen;omega) (by omega);simp only[Nat.zero_add,List.nil_append]at r2;have hnew:∀x,v'.ownBlock=some x→W.heap.size≤x:=fun x hx=>by
         rcases r4 x hx with h|h
         ·have h':some s=some x:=h;have:=Option.some.inj h';omega
         ·exact Nat.le_trans (g1).size h
        have gm:Mod [] W w3:=(g1).grown r3 (fun k hk=>.inr (by have h':some s=some k:=hk;have:=Option.some.inj h';omega));obtain⟨ua,um,uc,rfl⟩:=sT r2;exact⟨_,w3,eM _ _ 63 rfl rfl rfl hr,⟨ua,um,uc,rfl⟩,gm,cy r2 hnew⟩
       obtain⟨ua,um,uc,rfl⟩:=hu;simp only[Act.put,sA,sB,sC];refine dd 2 (by kernel_rfl) (by decide) ?_;simp only[tA,tB,tC,tD,Nat.reduceAdd];(repeat go_big_quiet_step (fail));refine wpQuiet_nil ?_;refine ia ?_;refine aO (fun s=>.slice (some ⟨s,0,none⟩) 0 0) (.cells #[] 51 (0,0)) (fun s w'=>jF W (.slice ua um uc) L.length (flat bZ L) (.slice (some ⟨s,0,none⟩) 0 0) 0 [] w') (by intro s s' h;simpa using h) rfl rfl (fun w' hw=> ?_) (fun w' hw=> ?_) (fun s w' h=>ah.of h.1) (fun s2=> ?_)
       ·kernel_rfl
       ·refine⟨hw.1.alloc _,aG hw.2 ((Mod.refl [] w').alloc _) (by simp),lz (an _ _) _ _ hw.1.size,fun x hx hy=> ?_⟩;have:=(hw.2.lt x hx).2;have hy':some w'.heap.size=some x:=hy;have:=Option.some.inj hy';omega
       refine sq 2 ?_;refine cP (fun y=>∃a m c,y=.slice a m c) (fun y w'=>jF W (.slice ua um uc) L.length (flat bZ L) y fs.length (ax fs) w') rfl rfl ⟨_,none,0,0,rfl⟩ (fun w' hw=> ?_) (fun y w' h=>ah.of h.1) (fun y hy=> ?_)
       ·obtain⟨g1,g2,g3,g4⟩:=hw;obtain⟨v',w3,hr,r2,r3,r4⟩:=ij (P:=Tryz.prog) w' 52 52 51 j0 (.agg #[.int .i64 0,.int .i64 0]) 2 16 Tryz.underlying52 hj0 hj1 hj2 hj3 rfl (by decide) _ 0 [] (aE g3 (Nat.zero_le _)) v fs.length (ax fs) (l4 (hFW.out.mod g1)) (eL fs) (fD fs) (by unfold maxLen;omega) (by omega);simp only[Nat.zero_add,List.nil_append]at r2;have hnew:∀x,v'.ownBlock=some x→W.heap.size≤x:=fun x hx=>by
         rcases r4 x hx with h|h
         ·exact(g3.lt x h).1
         ·exact Nat.le_trans g1.size h
        obtain⟨ya,ym,yc,rfl⟩:=oJ r2;refine⟨_,w3,eM _ _ 52 rfl rfl rfl hr,⟨ya,ym,yc,rfl⟩,g1.grown r3 (fun k hk=>.inr (g3.lt k hk).1),g2.kept r3 (mX g4),cy r2 hnew,fun x hx hy=> ?_⟩;rcases r4 x hy with h|h
        ·exact g4 x hx h
        ·have:=(g2.lt x hx).2;omega
       obtain⟨ya,ym,yc,rfl⟩:=hy;refine sq 1 ?_;refine aO (fun s=>.slice (some ⟨s,0,none⟩) 1 1) (.cells #[.int .i64 len,.slice ya ym yc] 54 (0,0)) (fun s w'=>jF W (.slice ua um uc) L.length (flat bZ L) (.slice ya ym yc) fs.length (ax fs) w'∧w'.heap[s]? =some (.cells #[.int .i64 len,.slice ya ym yc] 54 (0,0))∧(Value.slice ua um uc).ownBlock≠some s) (by intro s s' h;simpa using h) rfl rfl (fun w' hw=> ?_) (fun w' hw=> ?_) (fun s w' h=>ah.of h.1.1) (fun s=> ?_)
       ·kernel_rfl
       ·obtain⟨g1,g2,g3,g4⟩:=hw;exact⟨⟨g1.alloc _,aG g2 ((Mod.refl [] w').alloc _) (by simp),aG g3 ((Mod.refl [] w').alloc _) (by simp),g4⟩,an _ _,fun e=>by have:=(g2.lt _ e).2;omega⟩
       simp only[Act.put,sA,sB,sC];refine cP (fun u=>∃g cap,u=.slice (some ⟨g,0,none⟩) (L.length+1) cap) (fun u w'=>jF W u (L.length+1) (flat bZ (L++[((len,fs),.slice ya ym yc)])) (.slice ya ym yc) fs.length (ax fs) w') rfl rfl ⟨_,0,0,rfl⟩ (fun w' hw=> ?_) (fun u w' h=>ah.of h.1) (fun u hu=> ?_)
       ·obtain⟨⟨g1,g2,g3,g4⟩,g5,g6⟩:=hw;obtain⟨v',w3,hr,r2,r3,r4⟩:=gG (P:=Tryz.prog) w' 63 63 54 i0 (.agg #[.int .i64 0,.slice none 0 0]) 2 32 Tryz.underlying63 hi0 hi1 hi2 hi3 rfl (by decide) _ L.length (flat bZ L) (aE g2 (Nat.zero_le _)) ⟨s,0,none⟩ 1 1 [.int .i64 len,.slice ya ym yc] rfl (fun j u hj=>by rw[eT,Nat.zero_add,ae g5];simpa using hj) (by simp[Value.oneCell']) (by unfold maxLen;omega) (by omega);obtain⟨g',cap',rfl,_,_⟩:=cW r2 (by omega);have e:flat bZ L++[.int .i64 len,.slice ya ym yc]=flat bZ (L++[((len,fs),.slice ya ym yc)]):=by rw[lY,mg];rfl
        rw[e]at r2;have hnew:∀x,(Value.slice (some ⟨g',0,none⟩) (L.length+1) cap').ownBlock=some x→W.heap.size≤x:=fun x hx=>by
         rcases r4 x hx with h|h
         ·exact(g2.lt x h).1
         ·exact Nat.le_trans g1.size h
        refine⟨_,w3,eM _ _ 63 rfl rfl rfl hr,⟨g',cap',rfl⟩,g1.grown r3 (fun k hk=>.inr (g2.lt k hk).1),cy r2 hnew,g3.kept r3 (mX fun x h1 h2=>g4 x h2 h1),fun x hx hy=> ?_⟩;rcases r4 x hx with h|h
        ·exact g4 x h hy
        ·have:=(g3.lt x hy).2;omega
       obtain⟨g,cap,rfl⟩:=hu;refine sq 2 ?_;refine dq (p:=⟨rb,9,none⟩) (u:=.slice (some ⟨g,0,none⟩) (L.length+1) cap) (fun w'=>w'.setCell ⟨rb,9,none⟩ (.slice (some ⟨g,0,none⟩) (L.length+1) cap)) rfl rfl (by kernel_rfl) rfl rfl rfl (fun w' hw=> ?_) (fun w' hw=> ?_)
       ·have c1:=(hb1H.out.mod hw.1 (by simp)).cell;have f1:=(hb1H.out.mod hw.1 (by simp)).frozen;clear k1 k2;go_simp
       ·obtain⟨g1,g2,g3,g4⟩:=hw;have hS3:=hSW.out.add (c:=ai.all [gh [((len,fs),.slice ya ym yc)],aT (.slice (some ⟨g,0,none⟩) (L.length+1) cap) (L.length+1) 54 2 (flat bZ (L++[((len,fs),.slice ya ym yc)]))]) (f:=kJ [((len,fs),.slice ya ym yc)]++((Value.slice (some ⟨g,0,none⟩) (L.length+1) cap).ownBlock.toList++[])) g1
         ⟨_,_,⟨fun p hp=>by rw[List.mem_singleton.1 hp];exact fW g3 rfl,rfl⟩,⟨_,_,⟨aE g2 (Nat.zero_le _),rfl⟩,rfl,by simp,rfl⟩,fun x hx hy=>by
          obtain⟨p,hp,hx⟩:=ln hx;rw[List.mem_singleton.1 hp]at hx;rw[List.append_nil,Option.mem_toList]at hy;exact g4 x hy hx,rfl⟩ (fun x hx=>by
          rcases List.mem_append.1 hx with hx|hx
          ·obtain⟨p,hp,hx⟩:=ln hx;rw[List.mem_singleton.1 hp]at hx;exact(g3.lt x hx).1
          ·rw[List.append_nil,Option.mem_toList]at hx;exact(g2.lt x hx).1)
        have hS4:=(rl hS3).th 0 rfl (.slice (some ⟨g,0,none⟩) (L.length+1) cap);have hcb:=(hS4.site 0 rfl).cell;have hln:=fun ty w=>fY (ty:=ty) Tryz.underlying63 (hS4.row 1 rfl) w
        have hS4H:=zh hS4;clear k1 k2 hS4 hS3 g1 g2 g3 g4;go_wp2_with fail;go_ret2;have hP:af f w (lJ rb xs T (.slice (some ⟨g,0,none⟩) (L.length+1) cap) (L++[((len,fs),.slice ya ym yc)])) (w'.setCell ⟨rb,9,none⟩ (.slice (some ⟨g,0,none⟩) (L.length+1) cap)):=by
         unfold lJ;rw[show(L++[((len,fs),Value.slice ya ym yc)]).length=L.length+1 by simp];exact hS4H.out
        refine mT (by simp[←hlenH.out]) hP ?_ (fun t ht=> ?_) ?_
        ·rw[List.map_append,hLRH.out];rfl
        ·rcases List.mem_append.1 ht with h|h
         ·exact hokH.out t h
         ·rw[List.mem_singleton.1 h];exact heH.out
        ·have:=hlenH.out;rw[List.length_append];simp;omega
      case B2=>
       simp only[Nat.reduceSub,List.eraseIdx_cons_succ,List.eraseIdx_cons_zero];refine aO (fun s=>.slice (some ⟨s,0,none⟩) 0 0) (.cells #[] 51 (0,0)) (fun s2 w'=>Mod [] W w'∧(W.heap.size≤s∧w'.heap[s]? =some (.cells #[] 54 (0,0)))∧w'.ownsRow W.heap.size 51 2 (.slice (some ⟨s2,0,none⟩) 0 0) 0 []∧s≠s2) (by intro s s' h;simpa using h) rfl rfl (fun w' hw=> ?_) (fun w' hw=>⟨hw.1.alloc _,⟨hw.2.1,aI hw.2.2⟩,lz (an _ _) _ _ hw.1.size,by have:=aL hw.2.2;omega⟩) (fun s w' h=>ah.of h.1) (fun s2=> ?_)
       ·kernel_rfl
       simp only[Act.put,sA,sB,sC];refine cP (fun u=>∃a m c,u=.slice a m c) (fun u w'=>jF W u L.length (flat bZ L) (.slice (some ⟨s2,0,none⟩) 0 0) 0 [] w') rfl rfl ⟨_,none,0,0,rfl⟩ (fun w' hw=> ?_) (fun u w' h=>ah.of h.1) (fun u hu=> ?_)
       ·obtain⟨g1,⟨g2,g3⟩,g4,g5⟩:=hw;have hfr:=lz g3 0 2 (Nat.zero_le _);obtain⟨v',w3,hr,r2,r3,r4⟩:=ij (P:=Tryz.prog) w' 63 63 54 i0 (.agg #[.int .i64 0,.slice none 0 0]) 2 32 Tryz.underlying63 hi0 hi1 hi2 hi3 rfl (by decide) _ 0 [] hfr sv L.length (flat bZ L) (lF (aG hrowH.out g1 (by simp))) (gZ nR L) (htone.out w' g1) (by unfold maxLen;omega) (by omega);simp only[Nat.zero_add,List.nil_append]at r2;have hnew:∀x,v'.ownBlock=some x→W.heap.size≤x:=fun x hx=>by
         rcases r4 x hx with h|h
         ·have h':some s=some x:=h;have:=Option.some.inj h';omega
         ·exact Nat.le_trans (g1).size h
        have gm:Mod [] W w3:=(g1).grown r3 (fun k hk=>.inr (by have h':some s=some k:=hk;have:=Option.some.inj h';omega));obtain⟨ua,um,uc,rfl⟩:=sT r2;refine⟨_,w3,eM _ _ 63 rfl rfl rfl hr,⟨ua,um,uc,rfl⟩,gm,cy r2 hnew,g4.kept r3 (.inr fun e=>g5 (by simpa[Value.ownBlock]using e.symm)),fun x hx hy=> ?_⟩;have hy':some s2=some x:=hy;have hs2:=(g4.lt s2 rfl).2;rcases r4 x hx with h|h
        ·exact g5 (by have h':some s=some x:=h;rw[Option.some.inj h', ←Option.some.inj hy'])
        ·have:=Option.some.inj hy';omega
       simp only[Act.put,sA,sB,sC];obtain⟨ua,um,uc,rfl⟩:=hu;refine sq 2 ?_;refine sq 2 ?_;refine cP (fun y=>∃a m c,y=.slice a m c) (fun y w'=>jF W (.slice ua um uc) L.length (flat bZ L) y fs.length (ax fs) w') rfl rfl ⟨_,none,0,0,rfl⟩ (fun w' hw=> ?_) (fun y w' h=>ah.of h.1) (fun y hy=> ?_)
       ·obtain⟨g1,g2,g3,g4⟩:=hw;obtain⟨v',w3,hr,r2,r3,r4⟩:=ij (P:=Tryz.prog) w' 52 52 51 j0 (.agg #[.int .i64 0,.int .i64 0]) 2 16 Tryz.underlying52 hj0 hj1 hj2 hj3 rfl (by decide) _ 0 [] (aE g3 (Nat.zero_le _)) v fs.length (ax fs) (l4 (hFW.out.mod g1)) (eL fs) (fD fs) (by unfold maxLen;omega) (by omega);simp only[Nat.zero_add,List.nil_append]at r2;have hnew:∀x,v'.ownBlock=some x→W.heap.size≤x:=fun x hx=>by
         rcases r4 x hx with h|h
         ·exact(g3.lt x h).1
         ·exact Nat.le_trans g1.size h
        obtain⟨ya,ym,yc,rfl⟩:=oJ r2;refine⟨_,w3,eM _ _ 52 rfl rfl rfl hr,⟨ya,ym,yc,rfl⟩,g1.grown r3 (fun k hk=>.inr (g3.lt k hk).1),g2.kept r3 (mX g4),cy r2 hnew,fun x hx hy=> ?_⟩;rcases r4 x hy with h|h
        ·exact g4 x hx h
        ·have:=(g2.lt x hx).2;omega
       obtain⟨ya,ym,yc,rfl⟩:=hy;refine sq 1 ?_;refine aO (fun s=>.slice (some ⟨s,0,none⟩) 1 1) (.cells #[.int .i64 len,.slice ya ym yc] 54 (0,0)) (fun s w'=>jF W (.slice ua um uc) L.length (flat bZ L) (.slice ya ym yc) fs.length (ax fs) w'∧w'.heap[s]? =some (.cells #[.int .i64 len,.slice ya ym yc] 54 (0,0))∧(Value.slice ua um uc).ownBlock≠some s) (by intro s s' h;simpa using h) rfl rfl (fun w' hw=> ?_) (fun w' hw=> ?_) (fun s w' h=>ah.of h.1.1) (fun s=> ?_)
       ·kernel_rfl
       ·obtain⟨g1,g2,g3,g4⟩:=hw;exact⟨⟨g1.alloc _,aG g2 ((Mod.refl [] w').alloc _) (by simp),aG g3 ((Mod.refl [] w').alloc _) (by simp),g4⟩,an _ _,fun e=>by have:=(g2.lt _ e).2;omega⟩
       simp only[Act.put,sA,sB,sC];refine cP (fun u=>∃g cap,u=.slice (some ⟨g,0,none⟩) (L.length+1) cap) (fun u w'=>jF W u (L.length+1) (flat bZ (L++[((len,fs),.slice ya ym yc)])) (.slice ya ym yc) fs.length (ax fs) w') rfl rfl ⟨_,0,0,rfl⟩ (fun w' hw=> ?_) (fun u w' h=>ah.of h.1) (fun u hu=> ?_)
       ·obtain⟨⟨g1,g2,g3,g4⟩,g5,g6⟩:=hw;obtain⟨v',w3,hr,r2,r3,r4⟩:=gG (P:=Tryz.prog) w' 63 63 54 i0 (.agg #[.int .i64 0,.slice none 0 0]) 2 32 Tryz.underlying63 hi0 hi1 hi2 hi3 rfl (by decide) _ L.length (flat bZ L) (aE g2 (Nat.zero_le _)) ⟨s,0,none⟩ 1 1 [.int .i64 len,.slice ya ym yc] rfl (fun j u hj=>by rw[eT,Nat.zero_add,ae g5];simpa using hj) (by simp[Value.oneCell']) (by unfold maxLen;omega) (by omega);obtain⟨g',cap',rfl,_,_⟩:=cW r2 (by omega);have e:flat bZ L++[.int .i64 len,.slice ya ym yc]=flat bZ (L++[((len,fs),.slice ya ym yc)]):=by rw[lY,mg];rfl
        rw[e]at r2;have hnew:∀x,(Value.slice (some ⟨g',0,none⟩) (L.length+1) cap').ownBlock=some x→W.heap.size≤x:=fun x hx=>by
         rcases r4 x hx with h|h
         ·exact(g2.lt x h).1
         ·exact Nat.le_trans g1.size h
        refine⟨_,w3,eM _ _ 63 rfl rfl rfl hr,⟨g',cap',rfl⟩,g1.grown r3 (fun k hk=>.inr (g2.lt k hk).1),cy r2 hnew,g3.kept r3 (mX fun x h1 h2=>g4 x h2 h1),fun x hx hy=> ?_⟩;rcases r4 x hx with h|h
        ·exact g4 x h hy
        ·have:=(g3.lt x hy).2;omega
       obtain⟨g,cap,rfl⟩:=hu;refine sq 2 ?_;refine dq (p:=⟨rb,9,none⟩) (u:=.slice (some ⟨g,0,none⟩) (L.length+1) cap) (fun w'=>w'.setCell ⟨rb,9,none⟩ (.slice (some ⟨g,0,none⟩) (L.length+1) cap)) rfl rfl (by kernel_rfl) rfl rfl rfl (fun w' hw=> ?_) (fun w' hw=> ?_)
       ·have c1:=(hb1H.out.mod hw.1 (by simp)).cell;have f1:=(hb1H.out.mod hw.1 (by simp)).frozen;clear k1 k2;go_simp
       ·obtain⟨g1,g2,g3,g4⟩:=hw;have hS3:=hSW.out.add (c:=ai.all [gh [((len,fs),.slice ya ym yc)],aT (.slice (some ⟨g,0,none⟩) (L.length+1) cap) (L.length+1) 54 2 (flat bZ (L++[((len,fs),.slice ya ym yc)]))]) (f:=kJ [((len,fs),.slice ya ym yc)]++((Value.slice (some ⟨g,0,none⟩) (L.length+1) cap).ownBlock.toList++[])) g1
         ⟨_,_,⟨fun p hp=>by rw[List.mem_singleton.1 hp];exact fW g3 rfl,rfl⟩,⟨_,_,⟨aE g2 (Nat.zero_le _),rfl⟩,rfl,by simp,rfl⟩,fun x hx hy=>by
          obtain⟨p,hp,hx⟩:=ln hx;rw[List.mem_singleton.1 hp]at hx;rw[List.append_nil,Option.mem_toList]at hy;exact g4 x hy hx,rfl⟩ (fun x hx=>by
          rcases List.mem_append.1 hx with hx|hx
          ·obtain⟨p,hp,hx⟩:=ln hx;rw[List.mem_singleton.1 hp]at hx;exact(g3.lt x hx).1
          ·rw[List.append_nil,Option.mem_toList]at hx;exact(g2.lt x hx).1)
        have hS4:=(rl hS3).th 0 rfl (.slice (some ⟨g,0,none⟩) (L.length+1) cap);have hcb:=(hS4.site 0 rfl).cell;have hln:=fun ty w=>fY (ty:=ty) Tryz.underlying63 (hS4.row 1 rfl) w
        have hS4H:=zh hS4;clear k1 k2 hS4 hS3 g1 g2 g3 g4;go_wp2_with fail;go_ret2;have hP:af f w (lJ rb xs T (.slice (some ⟨g,0,none⟩) (L.length+1) cap) (L++[((len,fs),.slice ya ym yc)])) (w'.setCell ⟨rb,9,none⟩ (.slice (some ⟨g,0,none⟩) (L.length+1) cap)):=by
         unfold lJ;rw[show(L++[((len,fs),Value.slice ya ym yc)]).length=L.length+1 by simp];exact hS4H.out
        refine mT (by simp[←hlenH.out]) hP ?_ (fun t ht=> ?_) ?_
        ·rw[List.map_append,hLRH.out];rfl
        ·rcases List.mem_append.1 ht with h|h
         ·exact hokH.out t h
         ·rw[List.mem_singleton.1 h];exact heH.out
        ·have:=hlenH.out;rw[List.length_append];simp;omega
     case B=>
      simp only[Nat.reduceSub,List.eraseIdx_cons_succ,List.eraseIdx_cons_zero];refine aO (fun s=>.slice (some ⟨s,0,none⟩) 0 0) (.cells #[] 51 (0,0)) (fun s2 w'=>Mod [] W w'∧w'.ownsRow W.heap.size 51 2 (.slice (some ⟨s2,0,none⟩) 0 0) 0 []) (by intro s s' h;simpa using h) rfl rfl (fun w' hw=> ?_) (fun w' hw=>⟨hw.alloc _,lz (an _ _) _ _ hw.size⟩) (fun s w' h=>ah.of h.1) (fun s2=> ?_)
      ·kernel_rfl
      simp only[Act.put,sA,sB,sC];refine aO (fun s=>.slice (some ⟨s,0,none⟩) 0 0) (.cells #[] 54 (0,0)) (fun s w'=>Mod [] W w'∧(W.heap.size≤s∧w'.heap[s]? =some (.cells #[] 54 (0,0)))∧w'.ownsRow W.heap.size 51 2 (.slice (some ⟨s2,0,none⟩) 0 0) 0 []∧s≠s2) (by intro s s' h;simpa using h) rfl rfl (fun w' hw=> ?_) (fun w' hw=>⟨hw.1.alloc _,⟨hw.1.size,an _ _⟩,aG hw.2 ((Mod.refl [] w').alloc _) (by simp),by have:=(hw.2.lt s2 rfl).2;omega⟩) (fun s w' h=>ah.of h.1) (fun s=> ?_)
      ·kernel_rfl
      refine sq 4 ?_;refine cP (fun u=>∃a m c,u=.slice a m c) (fun u w'=>jF W u L.length (flat bZ L) (.slice (some ⟨s2,0,none⟩) 0 0) 0 [] w') rfl rfl ⟨_,none,0,0,rfl⟩ (fun w' hw=> ?_) (fun u w' h=>ah.of h.1) (fun u hu=> ?_)
      ·obtain⟨g1,⟨g2,g3⟩,g4,g5⟩:=hw;have hfr:=lz g3 0 2 (Nat.zero_le _);obtain⟨v',w3,hr,r2,r3,r4⟩:=ij (P:=Tryz.prog) w' 63 63 54 i0 (.agg #[.int .i64 0,.slice none 0 0]) 2 32 Tryz.underlying63 hi0 hi1 hi2 hi3 rfl (by decide) _ 0 [] hfr sv L.length (flat bZ L) (lF (aG hrowH.out g1 (by simp))) (gZ nR L) (htone.out w' g1) (by unfold maxLen;omega) (by omega);simp only[Nat.zero_add,List.nil_append]at r2;have hnew:∀x,v'.ownBlock=some x→W.heap.size≤x:=fun x hx=>by
        rcases r4 x hx with h|h
        ·have h':some s=some x:=h;have:=Option.some.inj h';omega
        ·exact Nat.le_trans (g1).size h
       have gm:Mod [] W w3:=(g1).grown r3 (fun k hk=>.inr (by have h':some s=some k:=hk;have:=Option.some.inj h';omega));obtain⟨ua,um,uc,rfl⟩:=sT r2;refine⟨_,w3,eM _ _ 63 rfl rfl rfl hr,⟨ua,um,uc,rfl⟩,gm,cy r2 hnew,g4.kept r3 (.inr fun e=>g5 (by simpa[Value.ownBlock]using e.symm)),fun x hx hy=> ?_⟩;have hy':some s2=some x:=hy;have hs2:=(g4.lt s2 rfl).2;rcases r4 x hx with h|h
       ·exact g5 (by have h':some s=some x:=h;rw[Option.some.inj h', ←Option.some.inj hy'])
       ·have:=Option.some.inj hy';omega
      simp only[Act.put,sA,sB,sC];obtain⟨ua,um,uc,rfl⟩:=hu;refine sq 2 ?_;refine sq 2 ?_;refine cP (fun y=>∃a m c,y=.slice a m c) (fun y w'=>jF W (.slice ua um uc) L.length (flat bZ L) y fs.length (ax fs) w') rfl rfl ⟨_,none,0,0,rfl⟩ (fun w' hw=> ?_) (fun y w' h=>ah.of h.1) (fun y hy=> ?_)
      ·obtain⟨g1,g2,g3,g4⟩:=hw;obtain⟨v',w3,hr,r2,r3,r4⟩:=ij (P:=Tryz.prog) w' 52 52 51 j0 (.agg #[.int .i64 0,.int .i64 0]) 2 16 Tryz.underlying52 hj0 hj1 hj2 hj3 rfl (by decide) _ 0 [] (aE g3 (Nat.zero_le _)) v fs.length (ax fs) (l4 (hFW.out.mod g1)) (eL fs) (fD fs) (by unfold maxLen;omega) (by omega);simp only[Nat.zero_add,List.nil_append]at r2;have hnew:∀x,v'.ownBlock=some x→W.heap.size≤x:=fun x hx=>by
        rcases r4 x hx with h|h
        ·exact(g3.lt x h).1
        ·exact Nat.le_trans g1.size h
       obtain⟨ya,ym,yc,rfl⟩:=oJ r2;refine⟨_,w3,eM _ _ 52 rfl rfl rfl hr,⟨ya,ym,yc,rfl⟩,g1.grown r3 (fun k hk=>.inr (g3.lt k hk).1),g2.kept r3 (mX g4),cy r2 hnew,fun x hx hy=> ?_⟩;rcases r4 x hy with h|h
       ·exact g4 x hx h
       ·have:=(g2.lt x hx).2;omega
      obtain⟨ya,ym,yc,rfl⟩:=hy;refine sq 1 ?_;refine aO (fun s=>.slice (some ⟨s,0,none⟩) 1 1) (.cells #[.int .i64 len,.slice ya ym yc] 54 (0,0)) (fun s w'=>jF W (.slice ua um uc) L.length (flat bZ L) (.slice ya ym yc) fs.length (ax fs) w'∧w'.heap[s]? =some (.cells #[.int .i64 len,.slice ya ym yc] 54 (0,0))∧(Value.slice ua um uc).ownBlock≠some s) (by intro s s' h;simpa using h) rfl rfl (fun w' hw=> ?_) (fun w' hw=> ?_) (fun s w' h=>ah.of h.1.1) (fun s=> ?_)
      ·kernel_rfl
      ·obtain⟨g1,g2,g3,g4⟩:=hw;exact⟨⟨g1.alloc _,aG g2 ((Mod.refl [] w').alloc _) (by simp),aG g3 ((Mod.refl [] w').alloc _) (by simp),g4⟩,an _ _,fun e=>by have:=(g2.lt _ e).2;omega⟩
      simp only[Act.put,sA,sB,sC];refine cP (fun u=>∃g cap,u=.slice (some ⟨g,0,none⟩) (L.length+1) cap) (fun u w'=>jF W u (L.length+1) (flat bZ (L++[((len,fs),.slice ya ym yc)])) (.slice ya ym yc) fs.length (ax fs) w') rfl rfl ⟨_,0,0,rfl⟩ (fun w' hw=> ?_) (fun u w' h=>ah.of h.1) (fun u hu=> ?_)
      ·obtain⟨⟨g1,g2,g3,g4⟩,g5,g6⟩:=hw;obtain⟨v',w3,hr,r2,r3,r4⟩:=gG (P:=Tryz.prog) w' 63 63 54 i0 (.agg #[.int .i64 0,.slice none 0 0]) 2 32 Tryz.underlying63 hi0 hi1 hi2 hi3 rfl (by decide) _ L.length (flat bZ L) (aE g2 (Nat.zero_le _)) ⟨s,0,none⟩ 1 1 [.int .i64 len,.slice ya ym yc] rfl (fun j u hj=>by rw[eT,Nat.zero_add,ae g5];simpa using hj) (by simp[Value.oneCell']) (by unfold maxLen;omega) (by omega);obtain⟨g',cap',rfl,_,_⟩:=cW r2 (by omega);have e:flat bZ L++[.int .i64 len,.slice ya ym yc]=flat bZ (L++[((len,fs),.slice ya ym yc)]):=by rw[lY,mg];rfl
       rw[e]at r2;have hnew:∀x,(Value.slice (some ⟨g',0,none⟩) (L.length+1) cap').ownBlock=some x→W.heap.size≤x:=fun x hx=>by
        rcases r4 x hx with h|h
        ·exact(g2.lt x h).1
        ·exact Nat.le_trans g1.size h
       refine⟨_,w3,eM _ _ 63 rfl rfl rfl hr,⟨g',cap',rfl⟩,g1.grown r3 (fun k hk=>.inr (g2.lt k hk).1),cy r2 hnew,g3.kept r3 (mX fun x h1 h2=>g4 x h2 h1),fun x hx hy=> ?_⟩;rcases r4 x hx with h|h
       ·exact g4 x h hy
       ·have:=(g3.lt x hy).2;omega
      obtain⟨g,cap,rfl⟩:=hu;refine sq 2 ?_;refine dq (p:=⟨rb,9,none⟩) (u:=.slice (some ⟨g,0,none⟩) (L.length+1) cap) (fun w'=>w'.setCell ⟨rb,9,none⟩ (.slice (some ⟨g,0,none⟩) (L.length+1) cap)) rfl rfl (by kernel_rfl) rfl rfl rfl (fun w' hw=> ?_) (fun w' hw=> ?_)
      ·have c1:=(hb1H.out.mod hw.1 (by simp)).cell;have f1:=(hb1H.out.mod hw.1 (by simp)).frozen;clear k1 k2;go_simp
      ·obtain⟨g1,g2,g3,g4⟩:=hw;have hS3:=hSW.out.add (c:=ai.all [gh [((len,fs),.slice ya ym yc)],aT (.slice (some ⟨g,0,none⟩) (L.length+1) cap) (L.length+1) 54 2 (flat bZ (L++[((len,fs),.slice ya ym yc)]))]) (f:=kJ [((len,fs),.slice ya ym yc)]++((Value.slice (some ⟨g,0,none⟩) (L.length+1) cap).ownBlock.toList++[])) g1
        ⟨_,_,⟨fun p hp=>by rw[List.mem_singleton.1 hp];exact fW g3 rfl,rfl⟩,⟨_,_,⟨aE g2 (Nat.zero_le _),rfl⟩,rfl,by simp,rfl⟩,fun x hx hy=>by
         obtain⟨p,hp,hx⟩:=ln hx;rw[List.mem_singleton.1 hp]at hx;rw[List.append_nil,Option.mem_toList]at hy;exact g4 x hy hx,rfl⟩ (fun x hx=>by
         rcases List.mem_append.1 hx with hx|hx
         ·obtain⟨p,hp,hx⟩:=ln hx;rw[List.mem_singleton.1 hp]at hx;exact(g3.lt x hx).1
         ·rw[List.append_nil,Option.mem_toList]at hx;exact(g2.lt x hx).1)
       have hS4:=(rl hS3).th 0 rfl (.slice (some ⟨g,0,none⟩) (L.length+1) cap);have hcb:=(hS4.site 0 rfl).cell;have hln:=fun ty w=>fY (ty:=ty) Tryz.underlying63 (hS4.row 1 rfl) w
       have hS4H:=zh hS4;clear k1 k2 hS4 hS3 g1 g2 g3 g4;go_wp2_with fail;go_ret2;have hP:af f w (lJ rb xs T (.slice (some ⟨g,0,none⟩) (L.length+1) cap) (L++[((len,fs),.slice ya ym yc)])) (w'.setCell ⟨rb,9,none⟩ (.slice (some ⟨g,0,none⟩) (L.length+1) cap)):=by
        unfold lJ;rw[show(L++[((len,fs),Value.slice ya ym yc)]).length=L.length+1 by simp];exact hS4H.out
       refine mT (by simp[←hlenH.out]) hP ?_ (fun t ht=> ?_) ?_
       ·rw[List.map_append,hLRH.out];rfl
       ·rcases List.mem_append.1 ht with h|h
        ·exact hokH.out t h
        ·rw[List.mem_singleton.1 h];exact heH.out
       ·have:=hlenH.out;rw[List.length_append];simp;omega
    ·have hl2:¬L.length<255:=by have:=hlenH.out;omega
     obtain⟨k1,k2⟩:=xy (t:=(len,fs)) heH.out hno hl;have eR:=hR'H.out.symm.trans k1;have eV:=hV'H.out.symm.trans k2;subst eR eV;clear hR'H hV'H;clear k1 k2 hno hb0 hb1 hrow;go_wp2_with fail;go_ret2;exact mT rfl (hSW.out.erase 0) hLRH.out hokH.out h255
 ·obtain⟨k1,k2⟩:=yq (R:=R) (t:=(len,fs)) he;have eR:=hR'H.out.symm.trans k1;have eV:=hV'H.out.symm.trans k2;subst eR eV;clear hR'H hV'H;have z:(bS len fs==0)=false:=by simp only[beq_eq_false_iff_ne];exact he
  clear he k1 k2;generalize bS len fs=q at*;go_wp2_with fail;go_ret2;exact mT rfl (hS1.out.erase 0) hLRH.out hokH.out h255
end Go.Proofs.YtdehaommhbjakaaGreat.Ty
namespace Go.Proofs.YtdehaommhbjakaaGreat
open RowKit Stg
def cI (w:World) (v:Value) (bs:List Int):Prop:=
 (v=.slice none 0 0∧bs=[])∨∃sb so cap,v=.slice (some ⟨sb,so,none⟩) bs.length cap∧sb<w.heap.size∧bs.length≤maxLen∧
  ∀i (h:i<bs.length),(0≤bs[i]∧bs[i]≤255)∧w.cell? ⟨sb,so+i,none⟩=some (.int .u8 bs[i])
theorem cI.len {w0:World} {v:Value} {bs:List Int} (h:cI w0 v bs) (ty:TypeId) (w:World):(Builtin.len_ #[56] ty #[v]).run Tryz.prog w=.ok (.int .i64 bs.length) w:=by
 rcases h with⟨rfl,rfl⟩|⟨sb,so,cap,rfl,_⟩<;>simp[Builtin.len_,run_underlying Tryz.underlying56,goInt]
theorem cI.small {w:World} {v:Value} {bs:List Int} (h:cI w v bs):bs.length≤9223372036854775807:=by
 rcases h with⟨_,rfl⟩|⟨_,_,_,_,_,h,_⟩
 ·simp
 ·exact h
def qN (d c:Int):Int:=IntKind.u64.wrap (bits .xor .u64 d c*1099511628211)
def iP (d:Int) (bs:List Int):Int:=bs.foldl qN d
theorem DG (d:Int) (bs:List Int) (c:Int):iP d (bs++[c])=qN (iP d bs) c:=by simp[iP]
theorem sn {v:Value} {bs:List Int} {w:World} (h:cI w v bs) (d:Int):Calls Tryz.prog 98 #[.int .u64 d,v] w fun e w'=>e=.returned (.int .u64 (iP d bs))∧w'=w:=by
 have hln:=fun ty w=>h.len ty w
 have hsm:=h.small;have hH:=zh h;clear h;go_enter Tryz.func98,Tryz.ntmps98;go_wp2_with fail;go_loopw [9,0] (fun i dv wr=>∃k:Nat,k≤bs.length∧i=.int .i64 k∧dv=.int .u64 (iP d (bs.take k))∧wr=w) (fun i _ _=>bs.length-(intOf i).toNat)
 case atStart=>exact⟨0,by omega,rfl,rfl,rfl⟩
 case round=>
  obtain⟨k,hk,rfl,rfl,rfl⟩:=hrel;by_cases hlt:k<bs.length
  ·rcases hH.out with⟨_,rfl⟩|⟨sb,so,cap,rfl,h2,h3,h4⟩
   ·simp at hlt
   ·obtain⟨hb,hc⟩:=h4 k hlt;have htk:bs.take (k+1)=bs.take k++[bs[k]]:=by rw[List.take_add_one,List.getElem?_eq_getElem hlt];rfl
    have hdg:=DG d (bs.take k) bs[k];rw[←htk]at hdg;have hdgH:=zh hdg;clear h4 htk hdg;generalize iP d (bs.take k)=dk at*;generalize bs[k]=c at*;go_wp2_with fail;go_roundw
    case rel=>exact⟨k+1,by omega,by go_num,by rw[hdgH.out];rfl,trivial⟩
    case measure=>simp[intOf];omega
  ·obtain rfl:k=bs.length:=by omega
   rw[List.take_length];go_wp2_with fail;go_ret;exact⟨rfl,rfl⟩
theorem Dv {v:Value} {bs:List Int} {w:World} (h:cI w v bs):Calls Tryz.prog 51 #[v] w fun e w'=>e=.returned (.int .u64 (iP 14695981039346656037 bs))∧w'=w:=by
 have hH:=zh (sn h 14695981039346656037);generalize iP 14695981039346656037 bs=r at*;clear h;go_enter Tryz.func51,Tryz.ntmps51;go_wp2_with fail;refine hH.out.mono ?_;rintro e w1 ⟨rfl,rfl⟩;go_wp2_with fail;go_ret;exact⟨rfl,rfl⟩
end Go.Proofs.YtdehaommhbjakaaGreat
