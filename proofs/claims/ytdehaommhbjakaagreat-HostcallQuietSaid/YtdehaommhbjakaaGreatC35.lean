/- Joined contracts. No conditions. -/
import Derived.Test.YtdehaommhbjakaaGreatC34
set_option maxHeartbeats 4000000
set_option maxRecDepth 20000
namespace Go.Proofs.YtdehaommhbjakaaGreat
open RowKit Stg
def eZ (f:Cf):HC:=⟨f.n.toNat,f.first,f.size,⟨f.b,f.o,f.r⟩,f.cap⟩
theorem oL {f:Cf} (h:bE f) (h1:0≤f.first∧f.first≤4294967295) (h2:f.b≤9223372036854775807∧f.o≤9223372036854775807∧f.r≤9223372036854775807):(eZ f).Ok:=by
 unfold bE at h;refine⟨?_,?_,h1.2,?_,?_,?_,?_,?_⟩<;>unfold eZ<;>simp only[Qt.Q.pos]<;>omega
theorem oh (c:HC):iq c (bL c)=[]:=by
 unfold iq;rw[sK,List.filterMap_eq_nil_iff];intro j _;unfold eS bL Tb.start;simp only;rw[if_neg];simp[Tb.aC,Tb.fresh,List.getD_eq_getElem?_getD,List.getElem?_replicate];split<;>simp
theorem DV (c:HC):ct c (bL c)=[]:=by
 have h1:bA c (bL c)=[]:=by unfold bA;rw[oh];rfl
 have h2:=ft c (bL c);rw[h1]at h2;exact List.map_eq_nil_iff.1 h2
theorem rW (c:HC):bA c (bL c)=[]:=by unfold bA;rw[oh];rfl
theorem sM (c:HC) (p:Int):aF c (bL c) p=Qt.Q.zero:=by
 unfold aF lI;rw[oh];rfl
theorem sZ {c:HC} (hc:c.Ok):az c 0 (bL c):=by
 have hsl:∀j,(Tb.aC (bL c).T.g.S j).2=false:=fun j=>by
  unfold bL Tb.start;simp[Tb.aC,Tb.fresh,List.getD_eq_getElem?_getD,List.getElem?_replicate];split<;>simp
 have hmem:∀j,bH (bL c) j=[]:=fun j=>by
  unfold bH bL;simp only[List.getD_eq_getElem?_getD,List.getElem?_replicate];split<;>rfl
 refine⟨Tb.eX.start c.n c.first,Bw.dF.nil _,Nat.le_refl _,by simp[bL],by simp[bL],Nat.le_refl _,by simp[bL],Nat.le_refl _,?_,?_,by simp[bL],?_,?_,?_,by simp[bL],?_,fun p=>.inl rfl⟩
 ·rw[rW];exact⟨by simp,List.Pairwise.nil⟩
 ·rw[oh];simp
 ·intro j _ h;rw[hsl]at h;cases h
 ·intro j b hb;rw[hmem]at hb;cases hb
 ·intro j _;exact hmem j
 ·intro p;rw[sM];have:=hc.lim;unfold Qt.Q.pos at this;unfold Qt.Q.zero;simp only;omega
theorem GL {size:Int} (h:0≤size):cd size [] (List.replicate size.toNat 0):=
 ⟨by simp;omega,fun b hb=>by rw[List.eq_of_mem_replicate hb];omega,by simp,fun x _=>by
  rw[List.getD_eq_getElem?_getD,List.getElem?_replicate];split<;>rfl⟩
theorem qB {w:World} {b:Nat} (h:w.heap[b]? =some (.map #[] 0)):(gW b (fun _=>0)).on w [b]:=⟨⟨_,_,h,trivial,fun k=>by simp[bU]⟩,rfl⟩
section
variable {F:List Nat} {W w:World} {cs:List ai} (hS:af F W cs w)
include hS
theorem xR:Calls Tryz.prog 30 #[] w fun e w'=>∃b,e=.returned (.pointer (some ⟨b,0,none⟩))∧af F W (Ty.dN 156 b []::cs) w':=
 (Ty.oU w).mono fun e w' ⟨he,hw⟩=>⟨_,he,by
  subst hw;exact hS.add (f:=[w.heap.size]++([]++([]++[]))) ((Mod.refl [] w).alloc _) (Ty.DI 156 (an w _)) (by simp)⟩
theorem s9:Calls Tryz.prog 31 #[] w fun e w'=>∃b,e=.returned (.pointer (some ⟨b,0,none⟩))∧af F W (Bw.eu b []::cs) w':=
 (Bw.oU w).mono fun e w' ⟨he,hm,hl⟩=>⟨_,he,hS.add hm hl (by simp)⟩
theorem qj (l:Qt.Q) (hl:l.pos):Calls Tryz.prog 32 #[.agg #[.int .i64 l.b,.int .i64 l.o,.int .i64 l.r]] w fun e w'=>∃b,e=.returned (.pointer (some ⟨b,0,none⟩))∧af F W (jm b l (fun _=>Qt.Q.zero)::cs) w':=
 (Qt.Gn l w (by unfold Qt.Q.pos at hl;unfold Qt.Q.i64;omega)).mono fun e w' ⟨b,he,hm,hb,hM⟩=>⟨_,he,hS.add (f:=[b]) hm ⟨none,hM,rfl⟩ (by simpa using hb)⟩
end
theorem yJ {F:List Nat} {W w:World} {cs:List ai} (hS:af F W cs w) (f:Cf) (hf:bE f) (h1:0≤f.first∧f.first≤4294967295) (h2:f.b≤9223372036854775807∧f.o≤9223372036854775807∧f.r≤9223372036854775807):
  Calls Tryz.prog 10 #[.agg (iA f)] w fun e w'=>∃a:HA,e=.returned (.tuple #[.pointer (some ⟨a.hb,0,none⟩),.int .i64 0])∧af F W (aB a (eZ f) (bL (eZ f))::cs) w':=by
 have hc:=oL hf h1 h2;have hck:=zh (mZ f);rw[qu hf]at hck;obtain⟨n,size,first,cap,b,o,r,cA,stack⟩:=f;have hfo:=hf;unfold bE at hf;simp only at hf h1 h2;obtain⟨n,rfl⟩:=Int.eq_ofNat_of_zero_le hf.1.1;have hlim:(⟨b,o,r⟩:Qt.Q).pos:=hc.lim;unfold iA at hck⊢;simp only at hck⊢;have hS1:=zh (hS.alloc (.cells #[.int .i64 n,.int .i64 size,.int .u32 first,.int .i64 cap,.int .i64 b,.int .i64 o,.int .i64 r,.int .i64 cA,.int .i64 stack] 47));have hfH:=zh hf;have hlimH:=zh hlim;have hcH:=zh hc;clear hS hf hlim hc hfo h2;go_enter Tryz.func10,Tryz.ntmps10;go_wp2_with fail;refine(hck.out _).mono ?_;rintro e w1 ⟨rfl,hm⟩;have hS2:=zh (hS1.out.then hm);have c1:=ae (hS2.out.block 0 rfl);clear hm hck hS1;go_wp2_with fail;have k1:=GW.cells (S:=[]) (hS2.out.block 0 rfl) (by simp);apply F3 (fun rt lb mb sm hb w'=>af [] w1 [aj hb (.cells #[.pointer none,.pointer (some ⟨rt,0,none⟩),.pointer none,.pointer (some ⟨lb,0,none⟩),.pointer (some ⟨mb,0,none⟩),.pointer none,.map (some sm)] 76 (0,0)),gW sm (fun _=>0),jm mb ⟨b,o,r⟩ (fun _=>Qt.Q.zero),Bw.eu lb [],Ty.dN 156 rt []] w')
 ·refine iQ 5 _ (fun w'=>∃x:GW [] w1,w'=x.1) (fun w'=>af [] w1 [] w') (by kernel_rfl) rfl rfl (by kernel_rfl) (by kernel_rfl) (fun _ h=>ah.of h.mod) (af.empty w1).drew ?_;dsimp only[List.getElem_toArray,List.getElem_cons_succ,List.getElem_cons_zero];refine fh (by decide) rfl rfl ?A1 rfl (by simp) ?B1
  case A1=>
   refine sV (fun b=>[Ty.dN 156 b []]) 30 #[] rfl Tryz.call30 rfl (fun _ _ h=>ah.of h.mod) (fun w' hw=>xR hw) (fun rt=> ?_);simp only[Act.put,sA,sB,sC];refine fh (by decide) rfl rfl ?A2 rfl (by simp) ?B2
   case A2=>
    refine sV (fun b=>[Bw.eu b [],Ty.dN 156 rt []]) 31 #[] rfl Tryz.call31 rfl (fun _ _ h=>ah.of h.mod) (fun w' hw=>s9 hw) (fun lb=> ?_);simp only[Act.put,sA,sB,sC];refine dd 2 (by kernel_rfl) (by decide) ?_;simp only[tA,tB,tC,tD,Nat.reduceAdd];(repeat go_big_quiet_step (fail));refine wpQuiet_nil ?_;refine fh (by decide) rfl rfl ?A3 rfl (by simp) ?B3
    case A3=>
     refine sV (fun mb=>[jm mb ⟨b,o,r⟩ (fun _=>Qt.Q.zero),Bw.eu lb [],Ty.dN 156 rt []]) 32 #[.agg #[.int .i64 b,.int .i64 o,.int .i64 r]] rfl Tryz.call32 rfl (fun _ _ h=>ah.of h.mod) (fun w' hw=>qj hw ⟨b,o,r⟩ hlimH.out) (fun mb=> ?_);simp only[Act.put,sA,sB,sC];refine ia ?_;refine lA (fun b=>.map (some b)) (.map #[] 0) (fun b=>gW b (fun _=>0)) (by intro s s' h;simpa using h) rfl rfl (fun _ _ h=>ah.of h.mod) (fun w' hw=>by kernel_rfl) (fun w' b h=>qB h) (fun sm=> ?_);refine sq 1 ?_;refine lA (fun b=>.pointer (some ⟨b,0,none⟩)) (.cells #[.pointer none,.pointer (some ⟨rt,0,none⟩),.pointer none,.pointer (some ⟨lb,0,none⟩),.pointer (some ⟨mb,0,none⟩),.pointer none,.map (some sm)] 76 (0,0)) (fun b=>aj b (.cells #[.pointer none,.pointer (some ⟨rt,0,none⟩),.pointer none,.pointer (some ⟨lb,0,none⟩),.pointer (some ⟨mb,0,none⟩),.pointer none,.map (some sm)] 76 (0,0))) (by intro s s' h;simpa using h) rfl rfl (fun _ _ h=>ah.of h.mod) (fun w' hw=>by kernel_rfl) (fun w' b h=>⟨h,rfl⟩) (fun hb=> ?_);refine sq 1 ?_;refine au fun w' hw'=> ?_
     exact⟨trivial,rt,lb,mb,sm,hb,rfl,hw'⟩
    case B3=>
     simp only[Nat.reduceSub,List.eraseIdx_cons_succ,List.eraseIdx_cons_zero];refine lA (fun b=>.map (some b)) (.map #[] 0) (fun b=>gW b (fun _=>0)) (by intro s s' h;simpa using h) rfl rfl (fun _ _ h=>ah.of h.mod) (fun w' hw=>by kernel_rfl) (fun w' b h=>qB h) (fun sm=> ?_);simp only[Act.put,sA,sB,sC];refine mS (fun mb=>[jm mb ⟨b,o,r⟩ (fun _=>Qt.Q.zero),gW sm (fun _=>0),Bw.eu lb [],Ty.dN 156 rt []]) 32 #[.agg #[.int .i64 b,.int .i64 o,.int .i64 r]] rfl Tryz.call32 rfl rfl (fun _ _ h=>ah.of h.mod) (fun w' hw=>qj hw ⟨b,o,r⟩ hlimH.out) (fun mb=> ?_);refine sq 1 ?_;refine lA (fun b=>.pointer (some ⟨b,0,none⟩)) (.cells #[.pointer none,.pointer (some ⟨rt,0,none⟩),.pointer none,.pointer (some ⟨lb,0,none⟩),.pointer (some ⟨mb,0,none⟩),.pointer none,.map (some sm)] 76 (0,0)) (fun b=>aj b (.cells #[.pointer none,.pointer (some ⟨rt,0,none⟩),.pointer none,.pointer (some ⟨lb,0,none⟩),.pointer (some ⟨mb,0,none⟩),.pointer none,.map (some sm)] 76 (0,0))) (by intro s s' h;simpa using h) rfl rfl (fun _ _ h=>ah.of h.mod) (fun w' hw=>by kernel_rfl) (fun w' b h=>⟨h,rfl⟩) (fun hb=> ?_);refine sq 1 ?_;refine au fun w' hw'=> ?_
     exact⟨trivial,rt,lb,mb,sm,hb,rfl,(hw'.out 2 rfl).swap⟩
   case B2=>
    simp only[List.eraseIdx_cons_succ,List.eraseIdx_cons_zero];refine lA (fun b=>.map (some b)) (.map #[] 0) (fun b=>gW b (fun _=>0)) (by intro s s' h;simpa using h) rfl rfl (fun _ _ h=>ah.of h.mod) (fun w' hw=>by kernel_rfl) (fun w' b h=>qB h) (fun sm=> ?_);simp only[Act.put,sA,sB,sC];refine mS (fun lb=>[Bw.eu lb [],gW sm (fun _=>0),Ty.dN 156 rt []]) 31 #[] rfl Tryz.call31 rfl rfl (fun _ _ h=>ah.of h.mod) (fun w' hw=>s9 hw) (fun lb=> ?_);refine sq 2 ?_;refine mS (fun mb=>[jm mb ⟨b,o,r⟩ (fun _=>Qt.Q.zero),Bw.eu lb [],gW sm (fun _=>0),Ty.dN 156 rt []]) 32 #[.agg #[.int .i64 b,.int .i64 o,.int .i64 r]] rfl Tryz.call32 rfl rfl (fun _ _ h=>ah.of h.mod) (fun w' hw=>qj hw ⟨b,o,r⟩ hlimH.out) (fun mb=> ?_);refine sq 1 ?_;refine lA (fun b=>.pointer (some ⟨b,0,none⟩)) (.cells #[.pointer none,.pointer (some ⟨rt,0,none⟩),.pointer none,.pointer (some ⟨lb,0,none⟩),.pointer (some ⟨mb,0,none⟩),.pointer none,.map (some sm)] 76 (0,0)) (fun b=>aj b (.cells #[.pointer none,.pointer (some ⟨rt,0,none⟩),.pointer none,.pointer (some ⟨lb,0,none⟩),.pointer (some ⟨mb,0,none⟩),.pointer none,.map (some sm)] 76 (0,0))) (by intro s s' h;simpa using h) rfl rfl (fun _ _ h=>ah.of h.mod) (fun w' hw=>by kernel_rfl) (fun w' b h=>⟨h,rfl⟩) (fun hb=> ?_);refine sq 1 ?_;refine au fun w' hw'=> ?_
    exact⟨trivial,rt,lb,mb,sm,hb,rfl,(hw'.out 3 rfl).swap⟩
  case B1=>
   simp only[Nat.reduceSub,List.eraseIdx_cons_succ,List.eraseIdx_cons_zero];refine lA (fun b=>.map (some b)) (.map #[] 0) (fun b=>gW b (fun _=>0)) (by intro s s' h;simpa using h) rfl rfl (fun _ _ h=>ah.of h.mod) (fun w' hw=>by kernel_rfl) (fun w' b h=>qB h) (fun sm=> ?_);simp only[Act.put,sA,sB,sC];refine mS (fun rt=>[Ty.dN 156 rt [],gW sm (fun _=>0)]) 30 #[] rfl Tryz.call30 rfl rfl (fun _ _ h=>ah.of h.mod) (fun w' hw=>xR hw) (fun rt=> ?_);simp only[Act.put,sA,sB,sC];refine mS (fun lb=>[Bw.eu lb [],Ty.dN 156 rt [],gW sm (fun _=>0)]) 31 #[] rfl Tryz.call31 rfl rfl (fun _ _ h=>ah.of h.mod) (fun w' hw=>s9 hw) (fun lb=> ?_);refine sq 2 ?_;refine mS (fun mb=>[jm mb ⟨b,o,r⟩ (fun _=>Qt.Q.zero),Bw.eu lb [],Ty.dN 156 rt [],gW sm (fun _=>0)]) 32 #[.agg #[.int .i64 b,.int .i64 o,.int .i64 r]] rfl Tryz.call32 rfl rfl (fun _ _ h=>ah.of h.mod) (fun w' hw=>qj hw ⟨b,o,r⟩ hlimH.out) (fun mb=> ?_);refine sq 1 ?_;refine lA (fun b=>.pointer (some ⟨b,0,none⟩)) (.cells #[.pointer none,.pointer (some ⟨rt,0,none⟩),.pointer none,.pointer (some ⟨lb,0,none⟩),.pointer (some ⟨mb,0,none⟩),.pointer none,.map (some sm)] 76 (0,0)) (fun b=>aj b (.cells #[.pointer none,.pointer (some ⟨rt,0,none⟩),.pointer none,.pointer (some ⟨lb,0,none⟩),.pointer (some ⟨mb,0,none⟩),.pointer none,.map (some sm)] 76 (0,0))) (by intro s s' h;simpa using h) rfl rfl (fun _ _ h=>ah.of h.mod) (fun w' hw=>by kernel_rfl) (fun w' b h=>⟨h,rfl⟩) (fun hb=> ?_);refine sq 1 ?_;refine au fun w' hw'=> ?_
   exact⟨trivial,rt,lb,mb,sm,hb,rfl,(hw'.out 4 rfl).swap⟩
 intro rt lb mb sm hb w2 aP;have hS3:=zh (zW hS2.out aP);simp only[List.cons_append,List.nil_append]at hS3;have c1:=ae (hS3.out.block 5 rfl);have c2:=ae (hS3.out.block 0 rfl);clear k1 hS2 aP;go_wp2_with fail;refine(DY hS3.out size (by have:=hfH.out;omega) (by have:=hfH.out;omega)).mono ?_;rintro e w3 ⟨ar,rfl,hS4⟩;have hS4:=zh hS4;have c2:=ae (hS4.out.block 1 rfl);have f2:=ay (hS4.out.block 1 rfl);have hS5:=zh (hS4.out.bO 1 rfl 0 (.pointer (some ⟨ar,0,none⟩)));have c3:=ae (hS5.out.block 6 rfl);clear hS3 c1;go_wp2_with fail;refine(Tb.Fv n first (by have:=hfH.out;omega) (by have:=hfH.out;omega) h1.2 hS5.out).mono ?_;rintro e w4 ⟨tb,ev,bt,pb,sl,rfl,hS6⟩;have hS6:=zh hS6;have c2:=ae (hS6.out.block 2 rfl);have f2:=ay (hS6.out.block 2 rfl);have hS7:=zh (hS6.out.bO 2 rfl 2 (.pointer (some ⟨tb,0,none⟩)));have c3:=ae (hS7.out.block 7 rfl);clear hS4 hS5;go_wp2_with fail;refine(CX cap (by have:=hfH.out;omega) (by have:=hfH.out;omega) _).mono ?_;rintro e w5 ⟨rfl,rfl⟩;have hS8:=zh (hS7.out.add (c:=dG (w4.setCell ⟨hb,2,none⟩ (.pointer (some ⟨tb,0,none⟩))).heap.size cap [] []) (f:=_) ((Mod.refl [] _).alloc _) (C3 cap (an _ _)) (by simp));have c2:=ae (hS8.out.block 3 rfl);have f2:=ay (hS8.out.block 3 rfl);generalize(w4.setCell ⟨hb,2,none⟩ (.pointer (some ⟨tb,0,none⟩))).alloc (.cells #[.int .i64 cap,.slice none 0 0,.slice none 0 0,.int .u64 0,.map none,.map none] 142)=w6 at*;generalize(w4.setCell ⟨hb,2,none⟩ (.pointer (some ⟨tb,0,none⟩))).heap.size=gb at*;have hS9:=zh (hS8.out.bO 3 rfl 5 (.pointer (some ⟨gb,0,none⟩)));clear hS6 hS7 hS8 c3;go_wp2_with fail;go_ret2;refine⟨⟨hb,ar,rt,tb,lb,mb,gb,sm,ev,bt,pb,sl⟩,rfl,?_⟩;have h9:=(((((((((hS9.out.out 4 rfl).out 1 rfl).out 5 rfl).out 6 rfl).out 4 rfl).out 7 rfl).out 6 rfl).out 7 rfl).erase 8);exact jg (a:=⟨hb,ar,rt,tb,lb,mb,gb,sm,ev,bt,pb,sl⟩) (c:=eZ ⟨n,size,first,cap,b,o,r,cA,stack⟩) (s':=bL (eZ ⟨n,size,first,cap,b,o,r,cA,stack⟩)) (rW _).symm (fun p=>(sM _ p).symm) (by rw[DV];exact GL (by have:=hfH.out;simp only[eZ];omega)) h9
end Go.Proofs.YtdehaommhbjakaaGreat
namespace Go.Proofs.YtdehaommhbjakaaGreat
open RowKit Stg
theorem Cb:(Tryz.prog.info? 56).map (fun i=>(i.zero,i.size,i.bytes))=some (some (.slice none 0 0),1,24):=by kernel_rfl
def lU (c:HC):RD:=⟨[],[],Tb.start c.n,[],[],[],[],List.replicate c.n [],fun _=>0⟩
theorem uo (w:World):∀n:Nat,aU ((List.replicate n ((Value.slice none 0 0:Value),([]:List Int))).map fun x=>aT x.1 x.2.length 5 1 (aR x.2)) w []
 |0=>rfl
 |n+1=>⟨[],[],⟨World.ownsRow_nil _ _ _ _,rfl⟩,uo w n,by simp,rfl⟩
theorem B7:ki (fun _=>0)=List.replicate 65 (.int .i64 0):=by
 unfold ki;rw[List.map_const',List.length_range]
theorem Gm {a:RA} {c:HC} {g8 g10:Nat} {w:World} {f:List Nat} (h:aU [aj a.rb (pg a c ⟨.slice none 0 0,.slice none 0 0,.slice none 0 0,.slice none 0 0,.slice none 0 0,.slice none 0 0,.slice (some ⟨g8,0,none⟩) c.n c.n,.slice (some ⟨g10,0,none⟩) 65 65⟩),Tb.qJ a.tb a.te a.tg a.gv a.lv c.first (Tb.start c.n),aT (.slice (some ⟨g8,0,none⟩) c.n c.n) c.n 56 1 (List.replicate c.n (.slice none 0 0)),aT (.slice (some ⟨g10,0,none⟩) 65 65) 65 3 1 (List.replicate 65 (.int .i64 0))] w f):(fT a c (lU c)).on w f:=by
 obtain⟨f1,_,h1,⟨f2,_,h2,⟨f3,_,h3,⟨f4,_,h4,h5,d4,e4⟩,d3,e3⟩,d2,e2⟩,d1,e1⟩:=h;subst e1 e2 e3 e4;refine⟨⟨.slice none 0 0,.slice none 0 0,.slice none 0 0,.slice none 0 0,.slice none 0 0,.slice none 0 0,.slice (some ⟨g8,0,none⟩) c.n c.n,.slice (some ⟨g10,0,none⟩) 65 65⟩,[],List.replicate c.n (.slice none 0 0,[]),rfl,by simp[lU],?_⟩;refine⟨f1,_,h1,⟨[],_,⟨World.ownsRow_nil _ _ _ _,rfl⟩,⟨[],_,⟨by simp,rfl⟩,⟨[],_,⟨World.ownsRow_nil _ _ _ _,rfl⟩,⟨f2,_,h2,⟨[],_,⟨World.ownsRow_nil _ _ _ _,rfl⟩,⟨[],_,⟨World.ownsRow_nil _ _ _ _,rfl⟩,⟨[],_,⟨World.ownsRow_nil _ _ _ _,rfl⟩,⟨[],_,⟨World.ownsRow_nil _ _ _ _,rfl⟩,⟨f3,_,?_,⟨[],_,uo w c.n,⟨f4,_,?_,h5,d4,rfl⟩,by simp,rfl⟩,d3,rfl⟩,by simp,rfl⟩,by simp,rfl⟩,by simp,rfl⟩,by simp,rfl⟩,d2,rfl⟩,by simp,rfl⟩,by simp,rfl⟩,by simp,rfl⟩,d1,rfl⟩
 ·rw[List.length_replicate,List.map_replicate];exact h3
 ·rw[show ki (lU c).st=_ from B7];exact h4
theorem E8 {F:List Nat} {W w:World} {cs:List ai} (hS:af F W cs w) (f:Cf) (hf:bE f) (h1:0≤f.first∧f.first≤4294967295) (h2:f.b≤9223372036854775807∧f.o≤9223372036854775807∧f.r≤9223372036854775807):
  Calls Tryz.prog 47 #[.agg (iA f)] w fun e w'=>∃a:RA,e=.returned (.tuple #[.pointer (some ⟨a.rb,0,none⟩),.int .i64 0])∧af F W (fT a (eZ f) (lU (eZ f))::cs) w':=by
 have hc:=oL hf h1 h2;have hck:=zh (r9 f);rw[qu hf]at hck;obtain⟨n,size,first,cap,b,o,r,cA,stack⟩:=f;obtain⟨N,rfl⟩:∃N:Nat,n=N:=⟨n.toNat,by have:=hf.1;simp only at this;omega⟩;have hn:=hc.n;have hf1:=hc.f1;have hf2:=hc.f2;unfold eZ at hn hf1 hf2;simp only[Int.toNat_natCast]at hn hf1 hf2;unfold iA at hck⊢;simp only at hck⊢;have hS1:=zh (hS.alloc (.cells #[.int .i64 N,.int .i64 size,.int .u32 first,.int .i64 cap,.int .i64 b,.int .i64 o,.int .i64 r,.int .i64 cA,.int .i64 stack] 47));clear hS hf h1 h2 hc;have c0:=ae (hS1.out.block 0 rfl);go_enter Tryz.func47,Tryz.ntmps47;go_wp2_with fail;refine(hck.out _).mono ?_;rintro e w1 ⟨rfl,hm⟩;have hS2:=zh (hS1.out.then hm);have c1:=ae (hS2.out.block 0 rfl);have hlt:=aL (hS2.out.block 0 rfl);generalize w.heap.size=bx at*;clear hm hck hS1 c0;go_wp2_with fail;have hS3:=hS2.out.alloc (.cells #[.int .i64 N,.int .i64 size,.int .u32 first,.int .i64 cap,.int .i64 b,.int .i64 o,.int .i64 r,.int .i64 cA,.int .i64 stack,.slice none 0 0,.int .i64 size,.slice none 0 0,.pointer none,.slice none 0 0,.int .i64 0,.int .i64 0,.int .i64 0,.slice none 0 0,.int .i64 0,.slice none 0 0,.slice none 0 0,.slice none 0 0,.slice none 0 0] 135);refine(Tb.EF N first hn hf1 hf2 hS3).mono ?_;rintro e w2 ⟨tb,te,tg,gv,lv,rfl,hS4⟩;generalize w1.heap.size=rb at*;have hS4:=zh hS4;have c1:=ae (hS4.out.block 2 rfl);have c2:=ae (hS4.out.block 1 rfl);have f2:=ay (hS4.out.block 1 rfl);have hS5:=hS4.out.bO 1 rfl 12 (.pointer (some ⟨tb,0,none⟩));have c3:=ae (hS5.block 2 rfl);have f3:=ay (hS5.block 1 rfl);have hS6a:=hS5.bO 1 rfl 14 (.int .i64 b);have f4:=ay (hS6a.block 1 rfl);have hS6b:=hS6a.bO 1 rfl 15 (.int .i64 o);have f5:=ay (hS6b.block 1 rfl);have hS6:=hS6b.bO 1 rfl 16 (.int .i64 r);have c5:=ae (hS6.block 2 rfl);have f6:=ay (hS6.block 1 rfl);have hS7:=hS6.bO 1 rfl 18 (.int .i64 cap);have c7:=ae (hS7.block 2 rfl);simp only[List.set_cons_zero,List.set_cons_succ,List.setIfInBounds_toArray]at hS7;have hS7:=zh hS7;clear hS2 hS3 hlt hS5 hS6 hS4 hS6a hS6b;generalize hW7:((((w2.setCell ⟨rb,12,none⟩ (.pointer (some ⟨tb,0,none⟩))).setCell ⟨rb,14,none⟩ (.int .i64 b)).setCell ⟨rb,15,none⟩ (.int .i64 o)).setCell ⟨rb,16,none⟩ (.int .i64 r)).setCell ⟨rb,18,none⟩ (.int .i64 cap)=w7 at*;obtain⟨w8,r8,o8,m8⟩:=Tb.p8 Tryz.underlying133 Cb rfl (by omega) N hn w7;have hS8:=hS7.out.add (c:=aT (.slice (some ⟨w7.heap.size,0,none⟩) N N) N 56 1 (List.replicate N (.slice none 0 0))) m8 ⟨aE o8 (Nat.zero_le _),rfl⟩ (fun x hx=>by simp[Value.ownBlock]at hx;omega);generalize w7.heap.size=g8 at*;have c8:=ae (hS8.block 2 rfl);have f8:=ay (hS8.block 2 rfl);have hS9:=hS8.bO 2 rfl 21 (.slice (some ⟨g8,0,none⟩) N N);generalize hW9:w8.setCell ⟨rb,21,none⟩ (.slice (some ⟨g8,0,none⟩) N N)=w9 at*;obtain⟨w10,r10,o10,m10⟩:=Tb.p8 Tryz.underlying28 Tb.mh rfl (by omega) 65 (by omega) w9;have hS10:=hS9.add (c:=aT (.slice (some ⟨w9.heap.size,0,none⟩) 65 65) 65 3 1 (List.replicate 65 (.int .i64 0))) m10 ⟨aE o10 (Nat.zero_le _),rfl⟩ (fun x hx=>by simp[Value.ownBlock]at hx;omega);generalize w9.heap.size=g10 at*;have c10:=ae (hS10.block 3 rfl);have f10:=ay (hS10.block 3 rfl);have hS11:=hS10.bO 3 rfl 22 (.slice (some ⟨g10,0,none⟩) 65 65);simp only[List.set_cons_zero,List.set_cons_succ,List.setIfInBounds_toArray]at hS11;have hS11:=zh hS11;have r10:(Instr.makeSlice 28 (.int .i64 65) (.int .i64 65)).run Tryz.prog w9=_:=r10;clear hS7 hS8 hS9 hS10 o8 m8 o10 m10;go_wp2_with fail;go_ret2;refine⟨⟨rb,tb,te,tg,gv,lv,cA,stack⟩,rfl,?_⟩;have hE:=(((hS11.out.erase 4).out 1 rfl).out 2 rfl).out 3 rfl;simp only[List.eraseIdx_cons_succ,List.eraseIdx_cons_zero]at hE;exact af.js (c:=fT ⟨rb,tb,te,tg,gv,lv,cA,stack⟩ (eZ ⟨N,size,first,cap,b,o,r,cA,stack⟩) (lU (eZ ⟨N,size,first,cap,b,o,r,cA,stack⟩))) [_,_,_,_] hE fun _ hg=>Gm (a:=⟨rb,tb,te,tg,gv,lv,cA,stack⟩) (c:=eZ ⟨N,size,first,cap,b,o,r,cA,stack⟩) hg
end Go.Proofs.YtdehaommhbjakaaGreat
namespace Go
namespace Stg
def nH (k rb:Nat) (cs:Array Value) (T e:TypeId) (sz n:Nat) (xs:List Value):ai:=
 ⟨fun w f=>∃v,aU [kR k rb cs T v,aT v n e sz xs] w f,fun⟨v,h⟩ hm hT=>⟨v,h.bj hm hT⟩,fun⟨_,h⟩=>h.lt⟩
section
variable {k rb:Nat} {cs:Array Value} {T e:TypeId} {sz n n':Nat} {xs ys:List Value} {w w1:World} {f:List Nat}
theorem vC (h:(nH k rb cs T e sz n xs).on w f):∃v,Site k w rb cs T v∧w.ownsRow 0 e sz v n xs∧rb∈f:=by
 obtain⟨v,f1,_,⟨h1,e1⟩,⟨f2,g2,⟨h2,e2⟩,_,_,e3⟩,_,e4⟩:=h;exact⟨v,h1,h2,by rw[e4,e1];simp⟩
theorem F0 {v:Value} (h:Site k w rb cs T v) (hr:w.ownsRow 0 e sz v n xs) (hne:∀g,v.ownBlock=some g→g≠rb):(nH k rb cs T e sz n xs).on w ([rb]++(v.ownBlock.toList++[])):=
 ⟨v,[rb],_,⟨h,rfl⟩,⟨_,[],⟨hr,rfl⟩,rfl,by simp,rfl⟩,fun x hx hg=>by
  rw[List.mem_singleton.1 hx]at hg;exact hne rb (by simpa using hg) rfl,rfl⟩
theorem E3 {u val:Value} (h:(nH k rb cs T e sz n xs).on w f) (hm:Mod [] w w1) (hr:w1.ownsRow w.heap.size e sz u n' ys):
  bD (nH k rb cs T e sz n' ys) val w f (.returned val) (w1.setCell ⟨rb,k,none⟩ u):=by
 obtain⟨v,h1,h2,h3⟩:=vC h;have hlt:=h1.lt;have hs:Mod [rb] w1 (w1.setCell ⟨rb,k,none⟩ u):=(Mod.refl [rb] w1).setCell (p:=⟨rb,k,none⟩) (.inl (by simp)) u;have hg:∀g,u.ownBlock=some g→g≠rb:=fun g hg=>by have:=(hr.lt g hg).1;omega
 refine⟨[rb]++(u.ownBlock.toList++[]),rfl,F0 ((h1.mod hm (by simp)).put u) (aG (aE hr (Nat.zero_le _)) hs (fun g h=>by simpa using hg g h)) hg,(hm.mono (T:=f) (by simp)).then hs (fun x hx=>.inl (by rw[List.mem_singleton.1 hx];exact h3)),fun x hx=> ?_⟩;simp only[List.append_nil,List.singleton_append,List.mem_cons,Option.mem_toList]at hx;rcases hx with rfl|hx
 ·exact .inl h3
 ·exact .inr (hr.lt x hx).1
theorem bD.none {c:ai} {v:Value} (h:c.on w f) (hm:Mod [] w w1):bD c v w f (.returned v) w1:=⟨f,rfl,c.bj h hm (by simp),hm.mono (by simp),fun _ hx=>.inl hx⟩
end
end Stg
end Go
namespace Go.Proofs.YtdehaommhbjakaaGreat
open RowKit Stg
theorem Bt {e:Ev} (h:e.ok) (w:World):Calls Tryz.prog 95 #[.agg #[.int .i64 e.p,.int .i64 e.op,.int .u64 e.h,.int .u64 e.arg,.int .i64 e.err]] w fun r w'=>r=.returned (.int .i64 0)∧Mod [] w w':=by
 obtain⟨p,op,hh,arg,err⟩:=e;obtain⟨h1,h2, -, -,h5⟩:=h;simp only at h1 h2 h5;simp only;have p1:decide (p<1)=false:=by rw[decide_eq_false_iff_not];omega
 have p2:decide (p>64)=false:=by rw[decide_eq_false_iff_not];omega
 have e1:decide (err<0)=false:=by rw[decide_eq_false_iff_not];omega
 have e2:decide (err>29)=false:=by rw[decide_eq_false_iff_not];omega
 rcases h2 with h2|rfl|rfl
 ·have o1:decide (op<1)=false:=by rw[decide_eq_false_iff_not];omega
  have o2:decide (op>11)=false:=by rw[decide_eq_false_iff_not];omega
  go_enter Tryz.func95,Tryz.ntmps95;go_wp2;go_ret;exact⟨rfl,(Mod.refl _ _).alloc _⟩
 ·go_enter Tryz.func95,Tryz.ntmps95;go_wp2;go_ret;exact⟨rfl,(Mod.refl _ _).alloc _⟩
 ·go_enter Tryz.func95,Tryz.ntmps95;go_wp2;go_ret;exact⟨rfl,(Mod.refl _ _).alloc _⟩
theorem vE (e:Ev) (w:World):Calls Tryz.prog 96 #[.agg #[.int .i64 e.p,.int .i64 e.op,.int .u64 e.h,.int .u64 e.arg,.int .i64 e.err]] w fun r w'=>r=.returned (.bool e.counts)∧Mod [] w w':=by
 obtain⟨p,op,hh,arg,err⟩:=e;unfold Ev.counts;simp only;by_cases a:op=32
 ·subst a;go_enter Tryz.func96,Tryz.ntmps96;go_wp2;go_ret;exact⟨by simp,(Mod.refl _ _).alloc _⟩
 ·by_cases b:op=33
  ·subst b;go_enter Tryz.func96,Tryz.ntmps96;go_wp2;go_ret;exact⟨by simp,(Mod.refl _ _).alloc _⟩
  ·have z1:(op != 32)=true:=by simpa using a
   have z2:(op != 33)=true:=by simpa using b
   have z3:(decide (op≠32)&&decide (op≠33))=true:=by simp[a,b]
   rw[z3];clear a b z3;go_enter Tryz.func96,Tryz.ntmps96;go_wp2;go_ret;exact⟨rfl,(Mod.refl _ _).alloc _⟩
theorem Er {w:World} {b n:Nat} {v:Value} {evs:List Ev} (h:w.ownsRow b 100 5 v n (flat bC evs)) (hn:evs.length=n) {k:Nat} (hk:k<evs.length):∃g cap,v=.slice (some ⟨g,0,none⟩) n cap∧g<w.heap.size∧
  w.cell? ⟨g,k*5,none⟩=some (.int .i64 evs[k].p)∧w.cell? ⟨g,k*5+1,none⟩=some (.int .i64 evs[k].op)∧w.cell? ⟨g,k*5+2,none⟩=some (.int .u64 evs[k].h)∧w.cell? ⟨g,k*5+3,none⟩=some (.int .u64 evs[k].arg)∧w.cell? ⟨g,k*5+4,none⟩=some (.int .i64 evs[k].err):=by
 obtain⟨g,cap,rfl,_,hg⟩:=cW h (by omega);have r:=fun j (hj:j<5)=>eO (f:=bC) (m:=5) (fun _=>rfl) h hk hn (k:=j) hj
 exact⟨g,cap,rfl,hg,r 0 (by omega),r 1 (by omega),r 2 (by omega),r 3 (by omega),r 4 (by omega)⟩
theorem CR (evs:List Ev) (p:Int) {k:Nat} (hk:k<evs.length):b5 (evs.take (k+1)) p=b5 (evs.take k) p+(if evs[k].p=p∧evs[k].counts=true then 1 else 0):=by
 rw[List.take_succ_eq_append_getElem hk,wS]
section
variable {w:World} {rb:Nat} {cs:Array Value} {T:TypeId} {v:Value} {evs:List Ev} (hb:Site 19 w rb cs T v) (hr:w.ownsRow 0 100 5 v evs.length (flat bC evs)) (hl:evs.length≤1000000)
include hb hr hl
theorem AA (p:Int):Calls Tryz.prog 148 #[.pointer (some ⟨rb,18,none⟩),.int .i64 p] w fun e w'=>e=.returned (.int .i64 (b5 evs p:Nat))∧Mod [] w w':=by
 have hln:=fun ty w'=>fY (ty:=ty) Tryz.underlying130 hr w'
 have hbH:=zh hb;have hrH:=zh hr;clear hb hr;go_enter Tryz.func148,Tryz.ntmps148;go_wp2_with fail;go_loopw [6,5] (fun i ov wr=>∃k:Nat,k≤evs.length∧i=.int .i64 k∧Mod [] w wr∧ov=.int .i64 ((b5 (evs.take k) p:Nat):Int)) (fun i _ _=>evs.length-(intOf i).toNat)
 case atStart=>exact⟨0,by omega,rfl,Mod.refl _ _,rfl⟩
 case round=>
  obtain⟨k,hk,rfl,hm,rfl⟩:=hrel;have hcb:=(hbH.out.mod hm (by simp)).cell;have hmH:=zh hm;have hrow:=aG hrH.out hm (by simp);clear hm;by_cases hlt:k<evs.length
  ·obtain⟨g,cap,rfl,_,c0,c1,c2,c3,c4⟩:=Er hrow rfl hlt;have hst:=zh (CR evs p hlt);have hco:=zh (vE evs[k]);have hle:b5 (evs.take k) p≤k:=by
    unfold b5;exact Nat.le_trans (List.length_filter_le _ _) (by simp;omega)
   clear hrow;by_cases he:evs[k].p=p
   ·have z:(evs[k].p==p)=true:=by simpa using he
    have heH:=zh he;clear he;generalize hM:b5 (evs.take k) p=M at*;clear hM;go_wp2_with fail;refine(hco.out _).mono ?_;rintro e w1 ⟨rfl,hm1⟩;have hm2:=zh (hmH.out.ag hm1);clear hm1;by_cases hc:evs[k].counts=true
    ·rw[hc];have hst2:=hst.out;rw[if_pos ⟨heH.out,hc⟩]at hst2;have hst2:=zh hst2;clear hc hst hcb c0 c1 c2 c3 c4;go_wp2_with fail;go_roundw
     case rel=>exact⟨k+1,by omega,by go_num,hm2.out,by rw[hst2.out];go_num⟩
     case measure=>simp[intOf];omega
    ·rw[Bool.not_eq_true]at hc;rw[hc];have hst2:=hst.out;rw[if_neg (by rw[hc];simp)]at hst2;have hst2:=zh hst2;clear hc hst hcb c0 c1 c2 c3 c4;go_wp2_with fail;go_roundw
     case rel=>exact⟨k+1,by omega,by go_num,hm2.out,by rw[hst2.out];simp⟩
     case measure=>simp[intOf];omega
   ·have z:(evs[k].p==p)=false:=by simpa using he
    have hst2:=hst.out;rw[if_neg (fun h=>he h.1)]at hst2;have hst2:=zh hst2;generalize hM:b5 (evs.take k) p=M at*;clear he hst hM;go_wp2_with fail;go_roundw
    case rel=>exact⟨k+1,by omega,by go_num,hmH.out,by rw[hst2.out];simp⟩
    case measure=>simp[intOf];omega
  ·obtain rfl:k=evs.length:=by omega
   rw[List.take_length];clear hrow;go_wp2_with fail;go_ret;exact⟨rfl,hmH.out⟩
theorem DU {cap:Int} (hcap:cs[18]? =some (.int .i64 cap)) (p:Int):Calls Tryz.prog 97 #[.pointer (some ⟨rb,18,none⟩),.int .i64 p] w fun e w'=>e=.returned (.bool (decide ((b5 evs p:Int)<cap)))∧Mod [] w w':=by
 have hre:=zh fun w' (hm:Mod [] w w')=>AA (hb.mod hm (by simp)) (aG hr hm (by simp)) hl p
 have k1:∀x:GW [] w,x.1.cell? ⟨rb,18,none⟩=some (.int .i64 cap):=fun x=>((hb.mod x.2 (by simp)).other (o:=18) (by omega)).trans hcap
 clear hb hr hcap;go_enter Tryz.func97,Tryz.ntmps97;go_wp2_with fail;refine aS (by kernel_rfl) (by kernel_rfl) ?_;refine sq 2 ?_;refine b7 148 #[.pointer (some ⟨rb,18,none⟩),.int .i64 p] (.int .i64 (b5 evs p:Nat)) rfl Tryz.call148 rfl rfl (fun w' hm=>hre.out w' hm) ?_;refine sq 6 ?_;refine au fun w2 aP=> ?_
 clear k1;go_wp2_with fail;go_ret;exact⟨rfl,aP⟩
end
end Go.Proofs.YtdehaommhbjakaaGreat
namespace Go.Proofs.YtdehaommhbjakaaGreat
open RowKit Stg
open Ty (Src ij lz)
def qE (P:Program) (t e:TypeId) (size bytes:Nat):Prop:=∃i z,P.underlying t=some (.slice e)∧P.info? e=some i∧i.zero=some z∧i.size=size∧i.bytes=bytes∧z.cells.size=size∧0<size
def jA (W:World) (T:TypeId) (sz:Nat) (u:Value) (n:Nat) (xs:List Value) (w:World):Prop:=Mod [] W w∧w.ownsRow W.heap.size T sz u n xs
def qR (W:World) (T:TypeId) (b:Nat) (es:List Value) (w:World):Prop:=Mod [] W w∧w.heap[b]? =some (.cells es.toArray T (0,0))∧W.heap.size≤b
def kq (W:World) (T:TypeId) (sz:Nat) (u:Value) (n:Nat) (xs:List Value) (b:Nat) (es:List Value) (w:World):Prop:=jA W T sz u n xs w∧qR W T b es w∧u.ownBlock≠some b
section
variable {W w:World} {T:TypeId} {sz n b:Nat} {u:Value} {xs es:List Value}
theorem xI (h:Mod [] W w):jA W T sz (.slice (some ⟨w.heap.size,0,none⟩) 0 0) 0 [] (w.alloc (.cells #[] T)):=⟨h.alloc _,lz (an _ _) _ _ h.size⟩
theorem wW (h:Mod [] W w):qR W T w.heap.size es (w.alloc (.cells es.toArray T)):=⟨h.alloc _,an _ _,h.size⟩
theorem xx (h:jA W T sz u n xs w):kq W T sz u n xs w.heap.size es (w.alloc (.cells es.toArray T)):=
 ⟨⟨h.1.alloc _,aG h.2 ((Mod.refl [] w).alloc _) (by simp)⟩,wW h.1,fun e=>by have:=(h.2.lt _ e).2;omega⟩
theorem EH (h:qR W T b es w):kq W T sz (.slice (some ⟨w.heap.size,0,none⟩) 0 0) 0 [] b es (w.alloc (.cells #[] T)):=
 ⟨xI h.1,⟨h.1.alloc _,aI h.2.1,h.2.2⟩,fun e=>by have:=aL h.2.1;have e':some w.heap.size=some b:=e;have:=Option.some.inj e';omega⟩
variable {P:Program} {t:TypeId} {bytes:Nat} {o:Oper} {a:Act} (s x:Operand) {v:Value} {m:Nat} {news:List Value}
theorem sW {w':World} {v u v':Value} (t:TypeId) (ho:o.op=.call {callee:=.builtin .append,args:=#[s,x],argTypes:=#[t,t]}) (hs:a.eval s=v) (hx:a.eval x=u)
  (hr:(Builtin.append_ #[t,t] o.type #[v,u]).run P w=.ok v' w'):(execOp a.eval o).run P w=.ok (.value v') w':=by
 unfold execOp;simp[ho,resolve,invoke,builtin,hs,hx,hr,Result.andThen]
theorem GR (ho:o.op=.call {callee:=.builtin .append,args:=#[s,x],argTypes:=#[t,t]}) (hs:a.eval s=u) (hx:a.eval x=v) (hR:qE P t T sz bytes) (h:jA W T sz u 0 [] w) (hv:Src w v m news) (hl:news.length=m*sz) (h1:∀u∈news,u.oneCell'=true) (h63:m≤maxLen) (hby:m*bytes≤140737488355328):
  ∃u' w',(execOp a.eval o).run P w=.ok (.value u') w'∧(∃a l c,u'=.slice a l c)∧jA W T sz u' m news w':=by
 obtain⟨i,z,r1,r2,r3,r4,r5,r6,r7⟩:=hR;obtain⟨v',w',hr,k2,k3,k4⟩:=ij (P:=P) w t o.type T i z sz bytes r1 r2 r3 r4 r5 r6 r7 u 0 [] (aE h.2 (Nat.zero_le _)) v m news hv hl h1 (by omega) (by rw[Nat.zero_add];exact hby);simp only[Nat.zero_add,List.nil_append]at k2;refine⟨v',w',sW s x t ho hs hx hr,?_,h.1.grown k3 (fun k hk=>.inr (h.2.lt k hk).1),cy k2 fun y hy=> ?_⟩
 ·rcases dr k2 with⟨rfl,_⟩|⟨_,_,rfl,_⟩<;>exact⟨_,_,_,rfl⟩
 ·exact(k4 y hy).elim (fun e=>(h.2.lt y e).1) (fun e=>Nat.le_trans h.1.size e)
theorem yR (ho:o.op=.call {callee:=.builtin .append,args:=#[s,x],argTypes:=#[t,t]}) (hs:a.eval s=u) (hx:a.eval x=v) (hR:qE P t T sz bytes) (h:kq W T sz u 0 [] b es w) (hv:Src w v m news) (hl:news.length=m*sz) (h1:∀u∈news,u.oneCell'=true) (h63:m≤maxLen) (hby:m*bytes≤140737488355328):
  ∃u' w',(execOp a.eval o).run P w=.ok (.value u') w'∧(∃a l c,u'=.slice a l c)∧kq W T sz u' m news b es w':=by
 obtain⟨i,z,r1,r2,r3,r4,r5,r6,r7⟩:=hR;obtain⟨⟨g1,g2⟩,⟨_,g3,g4⟩,g5⟩:=h;obtain⟨v',w',hr,k2,k3,k4⟩:=ij (P:=P) w t o.type T i z sz bytes r1 r2 r3 r4 r5 r6 r7 u 0 [] (aE g2 (Nat.zero_le _)) v m news hv hl h1 (by omega) (by rw[Nat.zero_add];exact hby);simp only[Nat.zero_add,List.nil_append]at k2;have hm:Mod [] W w':=g1.grown k3 (fun k hk=>.inr (g2.lt k hk).1);refine⟨v',w',sW s x t ho hs hx hr,?_,⟨hm,cy k2 fun y hy=> ?_⟩,⟨hm,(k3.block b (aL g3) fun e=>g5 e.symm).trans g3,g4⟩,fun e=> ?_⟩
 ·rcases dr k2 with⟨rfl,_⟩|⟨_,_,rfl,_⟩<;>exact⟨_,_,_,rfl⟩
 ·exact(k4 y hy).elim (fun e=>(g2.lt y e).1) (fun e=>Nat.le_trans g1.size e)
 ·have:=aL g3;exact(k4 b e).elim g5 (fun h=>by omega)
theorem tJ (ho:o.op=.call {callee:=.builtin .append,args:=#[s,x],argTypes:=#[t,t]}) (hs:a.eval s=u) (hx:a.eval x=.slice (some ⟨b,0,none⟩) 1 1) (hR:qE P t T sz bytes) (h:kq W T sz u m news b es w) (hl:es.length=sz) (h1:∀u∈es,u.oneCell'=true) (h63:m+1≤maxLen) (hby:(m+1)*bytes≤140737488355328):
  ∃u' w',(execOp a.eval o).run P w=.ok (.value u') w'∧(∃g cap,u'=.slice (some ⟨g,0,none⟩) (m+1) cap)∧jA W T sz u' (m+1) (news++es) w':=by
 obtain⟨i,z,r1,r2,r3,r4,r5,r6,r7⟩:=hR;obtain⟨⟨g1,g2⟩,⟨_,g3,g4⟩,g5⟩:=h;obtain⟨v',w',hr,k2,k3,k4⟩:=gG (P:=P) w t o.type T i z sz bytes r1 r2 r3 r4 r5 r6 r7 u m news (aE g2 (Nat.zero_le _)) ⟨b,0,none⟩ 1 1 es (by omega) (fun j u hj=>by rw[show(⟨b,0,none⟩:Addr).add j=⟨b,j,none⟩ by unfold Addr.add;split<;>simp_all,ae g3];simpa using hj) h1 h63 hby;refine⟨v',w',sW s x t ho hs hx hr,?_,g1.grown k3 (fun k hk=>.inr (g2.lt k hk).1),cy k2 fun y hy=> ?_⟩
 ·obtain⟨g',cap',rfl,_,_⟩:=cW k2 (by omega);exact⟨_,_,rfl⟩
 ·exact(k4 y hy).elim (fun e=>(g2.lt y e).1) (fun e=>Nat.le_trans g1.size e)
end
theorem Gi {P:Program} {c:Code} {Q:Exit→Act→World→Prop} {a:Act} {w:World} (R:Nat→Nat→World→Prop) (FR:Nat→Option Addr→Nat→Nat→Nat→Nat→Nat→Act)
  (h:c.wp P (fun e a' w'=>e=.normal∧∃s ua um uc b g cap,a'=FR s ua um uc b g cap∧R g cap w') a w) (hk:∀s ua um uc b g cap w',R g cap w'→Q .normal (FR s ua um uc b g cap) w'):c.wp P Q a w:=
 wp_mono h (by rintro e a' w' ⟨rfl,s,ua,um,uc,b,g,cap,rfl,h⟩;exact hk s ua um uc b g cap w' h)
end Go.Proofs.YtdehaommhbjakaaGreat
