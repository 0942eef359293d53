/- Joined contracts. No conditions. -/
import Derived.Test.YtgfdeiijblakfaaGreatProg
import Derived.Laws.BitsLemmas
import Derived.Laws.Bits64
import Derived.Test.YtgfdeiijblakfaaGreatCS
import Derived.Test.YtgfdeiijblakfaaGreatC11
import Derived.Test.YtgfdeiijblakfaaGreatC12
import Derived.Test.YtgfdeiijblakfaaGreatC20
import Derived.Test.YtgfdeiijblakfaaGreatC25
set_option maxHeartbeats 2000000
set_option maxRecDepth 20000
namespace Go.Proofs.YtgfdeiijblakfaaGreat
open Go Go.RowKit Go.Stg
open Ty (FieldsAt fields_get fcells fcells_length fields_cells fcells_oneCell row_fields)
def takenC (bm:Nat) (used:List Ext):Comp:=
 ⟨fun w f=>TakenAt w bm used∧f=[bm],fun h hm hT=>⟨h.1.mod hm (hT bm (by rw[h.2];simp)),h.2⟩,fun h x hx=>by
  rw[h.2,List.mem_singleton]at hx;subst hx;obtain⟨_,_,h1,_⟩:=h.1;exact lt_of h1⟩
def alP (ab bm:Nat) (fv:Value) (fr used:List Ext):List Comp:=
 [blockC ab (.cells #[fv,.map (some bm)] 150 (0,0)),rowC fv fr.length 139 2 (fcells fr),takenC bm used]
def alOn (ab:Nat) (fr used:List Ext) (w:World) (f:List Nat):Prop:=∃bm fv,Hold (alP ab bm fv fr used) w f
def alC (ab:Nat) (fr used:List Ext):Comp:=⟨alOn ab fr used,fun⟨a,b,h⟩ hm hT=>⟨a,b,h.keep hm hT⟩,fun⟨_,_,h⟩=>h.lt⟩
theorem TakenAt.congr {w:World} {bm:Nat} {used used':List Ext} (h:TakenAt w bm used) (he:∀off,lenAt used off=lenAt used' off):TakenAt w bm used':=
 let ⟨es,c,h1,h2,h3⟩:=h;⟨es,c,h1,h2,fun off=>by rw[h3,he]⟩
theorem Hold.mono1 {c c':Comp} {cs:List Comp} {w:World} {f:List Nat} (i:Nat) (h:Hold cs w f) (hi:cs[i]? =some c) (hc:∀g,c.on w g→c'.on w g):Hold (cs.set i c') w f:=by
 induction cs generalizing f i with
 |nil=>simp at hi
 |cons c0 cs ih=>
  obtain⟨g,k,h1,h2,h3,e⟩:=h
  cases i with
  |zero=>
   obtain rfl:c0=c:=by simpa using hi
   exact⟨g,k,hc g h1,h2,h3,e⟩
  |succ i=>exact⟨g,k,h1,ih i h2 (by simpa using hi),h3,e⟩
theorem alC.congr {ab:Nat} {fr used used':List Ext} {w:World} {f:List Nat} (h:(alC ab fr used).on w f) (he:∀off,lenAt used off=lenAt used' off):(alC ab fr used').on w f:=
 let ⟨bm,fv,hH⟩:=h;⟨bm,fv,Hold.mono1 (cs:=alP ab bm fv fr used) 2 hH rfl fun _ hg=>⟨hg.1.congr he,hg.2⟩⟩
theorem scene_taken {F:List Nat} {W w:World} {cs:List Comp} (i:Nat) {bm:Nat} {used:List Ext} (h:Scene F W cs w) (hi:cs[i]? =some (takenC bm used)):TakenAt w bm used:=
 let ⟨_,h1,_⟩:=h.part i hi;h1.1
theorem alhas_ok {ab:Nat} {fr used:List Ext} {w:World} {f:List Nat} (h:(alC ab fr used).on w f) (o l:Int):
  Calls Tryz.prog 146 #[.pointer (some ⟨ab,0,none⟩),.agg #[.int .i64 o,.int .i64 l]] w fun e w'=>e=.returned (.bool (hasB used (o,l)))∧Mod [] w w':=by
 obtain⟨bm,fv,hH⟩:=h;have hS:=Scene.start hH;exact has_ok (hS.block 0 rfl) (scene_taken 2 hS rfl) o l
theorem alnew_ok {F:List Nat} {W w:World} {cs:List Comp} (hS:Scene F W cs w) (size:Int) (h0:0≤size) (h1:size≤1048576):
  Calls Tryz.prog 28 #[.int .i64 size] w fun e w'=>∃ab,e=.returned (.tuple #[.pointer (some ⟨ab,0,none⟩),.int .i64 0])∧Scene F W (alC ab (gap 0 size) []::cs) w':=by
 have hc:=Lib.hid (compl_nil size h0 h1 w);have hSH:=Lib.hid hS;have hmm:=fun w=>run_makeMap (P:=Tryz.prog) 89 w
 clear hS;go_enter Tryz.func28,Tryz.ntmps28;go_wp2_with fail;refine hc.out.mono ?_;rintro e w1 ⟨u,rfl,hr,hm⟩;obtain⟨ua,ul,uc,rfl⟩:=row_form hr;have hrH:=Lib.hid hr;have hmH:=Lib.hid hm;clear hr hm hc;go_wp2_with fail;go_ret2;refine⟨_,rfl,?_⟩;have hw1:=hmH.out.size;have hm2:=(hmH.out.alloc (.map #[] 0)).alloc (.cells #[.slice ua ul uc,.map (some w1.heap.size)] 150);have hb1:((w1.alloc (.map #[] 0)).alloc (.cells #[.slice ua ul uc,.map (some w1.heap.size)] 150)).heap[w1.heap.size]? =some (.map #[] 0):=at_alloc_old (at_alloc w1 _);have hb2:((w1.alloc (.map #[] 0)).alloc (.cells #[.slice ua ul uc,.map (some w1.heap.size)] 150)).heap[w1.heap.size+1]? =some (.cells #[.slice ua ul uc,.map (some w1.heap.size)] 150):=by
  have:=at_alloc (w1.alloc (.map #[] 0)) (.cells #[.slice ua ul uc,.map (some w1.heap.size)] 150);simpa using this
 have hr2:=row_mod hrH.out (((Mod.refl [] w1).alloc (.map #[] 0)).alloc (.cells #[.slice ua ul uc,.map (some w1.heap.size)] 150)) (by simp);have hlt:=hrH.out.lt;refine hSH.out.add (f:=[w1.heap.size+1]++((Value.slice ua ul uc).ownBlock.toList++([w1.heap.size]++[]))) hm2 ⟨w1.heap.size,.slice ua ul uc,[w1.heap.size+1],_,⟨hb2,rfl⟩,⟨_,_,⟨row_base hr2 (Nat.zero_le _),rfl⟩,⟨[w1.heap.size],[],⟨⟨#[],0,hb1,trivial,fun off=>rfl⟩,rfl⟩,rfl,by simp,rfl⟩,fun x hx hy=> ?_,rfl⟩,fun x hx hy=> ?_,rfl⟩ (fun x hx=> ?_)
 ·rw[Option.mem_toList]at hx;have:=hlt x hx;simp at hy;omega
 ·rw[List.mem_singleton]at hx;subst hx;simp at hy;have:=hlt _ hy;omega
 ·simp at hx;rcases hx with rfl|hx|rfl
  ·omega
  ·exact(hlt x hx).1
  ·exact hw1
def BytesAt (w:World) (v:Value) (bs:List Int):Prop:=
 (v=.slice none 0 0∧bs=[])∨∃sb so cap,v=.slice (some ⟨sb,so,none⟩) bs.length cap∧sb<w.heap.size∧bs.length≤maxLen∧
  ∀i (h:i<bs.length),(0≤bs[i]∧bs[i]≤255)∧w.cell? ⟨sb,so+i,none⟩=some (.int .u8 bs[i])
theorem BytesAt.len {w0:World} {v:Value} {bs:List Int} (h:BytesAt w0 v bs) (ty:TypeId) (w:World):(Builtin.len_ #[81] ty #[v]).run Tryz.prog w=.ok (.int .i64 bs.length) w:=by
 rcases h with⟨rfl,rfl⟩|⟨sb,so,cap,rfl,_⟩<;>simp[Builtin.len_,run_underlying Tryz.underlying81,goInt]
theorem BytesAt.small {w:World} {v:Value} {bs:List Int} (h:BytesAt w v bs):bs.length≤9223372036854775807:=by
 rcases h with⟨_,rfl⟩|⟨_,_,_,_,_,h,_⟩
 ·simp
 ·exact h
def digB (d c:Int):Int:=IntKind.u64.wrap (bits .xor .u64 d c*1099511628211)
def digL (d:Int) (bs:List Int):Int:=bs.foldl digB d
theorem digL_snoc (d:Int) (bs:List Int) (c:Int):digL d (bs++[c])=digB (digL d bs) c:=by simp[digL]
theorem digadd_ok {v:Value} {bs:List Int} {w:World} (h:BytesAt w v bs) (d:Int):Calls Tryz.prog 72 #[.int .u64 d,v] w fun e w'=>e=.returned (.int .u64 (digL d bs))∧w'=w:=by
 have hln:=fun ty w=>h.len ty w
 have hsm:=h.small;have hH:=Lib.hid h;clear h;go_enter Tryz.func72,Tryz.ntmps72;go_wp2_with fail;go_loopw [9,0] (fun i dv wr=>∃k:Nat,k≤bs.length∧i=.int .i64 k∧dv=.int .u64 (digL d (bs.take k))∧wr=w) (fun i _ _=>bs.length-(intOf i).toNat)
 case atStart=>exact⟨0,by omega,rfl,rfl,rfl⟩
 case round=>
  obtain⟨k,hk,rfl,rfl,rfl⟩:=hrel;by_cases hlt:k<bs.length
  ·rcases hH.out with⟨_,rfl⟩|⟨sb,so,cap,rfl,h2,h3,h4⟩
   ·simp at hlt
   ·obtain⟨hb,hc⟩:=h4 k hlt;have htk:bs.take (k+1)=bs.take k++[bs[k]]:=by rw[List.take_add_one,List.getElem?_eq_getElem hlt];rfl
    have hdg:=digL_snoc d (bs.take k) bs[k];rw[←htk]at hdg;have hdgH:=Lib.hid hdg;clear h4 htk hdg;generalize digL d (bs.take k)=dk at*;generalize bs[k]=c at*;go_wp2_with fail;go_roundw
    case rel=>exact⟨k+1,by omega,by go_num,by rw[hdgH.out];rfl,trivial⟩
    case measure=>simp[intOf];omega
  ·obtain rfl:k=bs.length:=by omega
   rw[List.take_length];go_wp2_with fail;go_ret;exact⟨rfl,rfl⟩
theorem digsum_ok {v:Value} {bs:List Int} {w:World} (h:BytesAt w v bs):Calls Tryz.prog 74 #[v] w fun e w'=>e=.returned (.int .u64 (digL 14695981039346656037 bs))∧w'=w:=by
 have hH:=Lib.hid (digadd_ok h 14695981039346656037);generalize digL 14695981039346656037 bs=r at*;clear h;go_enter Tryz.func74,Tryz.ntmps74;go_wp2_with fail;refine hH.out.mono ?_;rintro e w1 ⟨rfl,rfl⟩;go_wp2_with fail;go_ret;exact⟨rfl,rfl⟩
theorem or128:∀x:Fin 256,bits .or .u8 (x.1:Int) 128=((x.1%128+128:Nat):Int):=by decide+kernel
theorem or_more (n:Int):bits .or .u8 (n%256) 128=n%128+128:=by
 have h2:=or128 ⟨(n%256).toNat,by omega⟩;simp only at h2;rw[show(((n%256).toNat:Nat):Int)=n%256 by omega]at h2;rw[h2];omega
def bvals (bs:List Int):List Value:=bs.map (.int .u8)
theorem bvals_len (bs:List Int):(bvals bs).length=bs.length:=by simp[bvals]
theorem bvals_snoc (bs:List Int) (b:Int):bvals (bs++[b])=bvals bs++[.int .u8 b]:=by simp[bvals]
theorem bvals_one (bs:List Int):∀u∈bvals bs,u.oneCell'=true:=by
 intro u hu;obtain⟨b,_,rfl⟩:=List.mem_map.1 hu;rfl
theorem info_u8:(Tryz.prog.info? 5).map (fun i=>(i.zero,i.size,i.bytes))=some (some (.int .u8 0),1,1):=by kernel_rfl
theorem bytes_cells {w:World} {sb so cap n:Nat} {bs:List Int} (h:BytesAt w (.slice (some ⟨sb,so,none⟩) n cap) bs):∀j u,(bvals bs)[j]? =some u→w.cell? ((⟨sb,so,none⟩:Addr).add j)=some u:=by
 intro j u hu;rcases h with⟨h,_⟩|⟨sb',so',cap',h,h2,h3,h4⟩
 ·simp at h
 ·simp at h;obtain⟨⟨rfl,rfl⟩,_,_⟩:=h;obtain⟨hj,_⟩:=List.getElem?_eq_some_iff.1 hu;rw[bvals_len]at hj;rw[Ty.add_at,(h4 j hj).2];unfold bvals at hu;rw[List.getElem?_map,List.getElem?_eq_getElem hj]at hu;simpa using hu
theorem BytesAt.mod {w w':World} {v:Value} {bs:List Int} (h:BytesAt w v bs) (hm:Mod [] w w'):BytesAt w' v bs:=by
 rcases h with h|⟨sb,so,cap,rfl,h2,h3,h4⟩
 ·exact .inl h
 ·exact .inr ⟨sb,so,cap,rfl,hm.lt h2,h3,fun i hi=>⟨(h4 i hi).1,(Ty.cell_mod hm h2 (by simp)).trans (h4 i hi).2⟩⟩
theorem bclone_ok (v:Value) (bs:List Int) (hl:bs.length≤100000000) (w:World) (h:BytesAt w v bs):
  Calls Tryz.prog 112 #[v] w fun e w'=>∃v',e=.returned v'∧w'.ownsRow w.heap.size 5 1 v' bs.length (bvals bs)∧Mod [] w w':=by
 obtain⟨i0,hi0,hz0,hz1,hz2⟩:=info_parts info_u8;rcases h with⟨rfl,rfl⟩|⟨sb,so,cap,rfl,g2,g3,g4⟩
 ·have hnil:=fun w=>Lib.run_eql_slice_nil (P:=Tryz.prog) w 81 5 none 0 0 0 0 Tryz.underlying81
  go_enter Tryz.func112,Tryz.ntmps112;go_wp2_with fail;go_ret;exact⟨_,rfl,World.ownsRow_nil _ _ _ _,Mod.refl _ _⟩
 ·have hown:(w.alloc (.cells #[] 5 (0,0))).ownsRow w.heap.size 5 1 (.slice (some ⟨w.heap.size,0,none⟩) 0 0) 0 []:=World.ownsRow_made w #[] 0 (Nat.le_refl _) (Nat.zero_le _) rfl;have hmA:=(Mod.refl [] w).alloc (.cells #[] 5 (0,0));have hF:BytesAt (w.alloc (.cells #[] 5 (0,0))) (.slice (some ⟨sb,so,none⟩) bs.length cap) bs:=BytesAt.mod (.inr ⟨sb,so,cap,rfl,g2,g3,g4⟩) hmA;have hcs:=Lib.hid (bytes_cells hF);clear g4 hF;have h63:0+bs.length≤maxLen:=by unfold maxLen;omega
  have hby:(0+bs.length)*1≤140737488355328:=by omega
  have hfl:(bvals bs).length=bs.length*1:=by rw[bvals_len];omega
  have hfl:=Lib.hid hfl;have hnil:=fun w=>Lib.run_eql_slice_nil (P:=Tryz.prog) w 81 5 (some ⟨sb,so,none⟩) bs.length cap 0 0 Tryz.underlying81
  go_enter Tryz.func112,Tryz.ntmps112;go_wp2_with (at_builtin;refine wpList_append_row _ rfl _ _ 81 rfl 5 i0 (.int .u8 0) 1 1 Tryz.underlying81 hi0 hz0 hz1 hz2 rfl (by decide) (.slice (some ⟨w.heap.size,0,none⟩) 0 0) 0 [] rfl (row_base hown (Nat.zero_le _)) ⟨sb,so,none⟩ bs.length cap (bvals bs) rfl hfl.out hcs.out (bvals_one bs) h63 hby ?_;intro v' w1 hown1 hgrow hfr;simp only[Nat.zero_add,List.nil_append]at hown1;have hown1:=Lib.hid hown1;have hgrow:=Lib.hid hgrow;have hfr:=Lib.hid hfr);go_ret;refine⟨_,rfl,row_all hown1.out fun g hg=> ?_,hmA.grown hgrow.out fun k hk=>.inr ?_⟩
  ·rcases hfr.out g hg with h|h
   ·have h':some w.heap.size=some g:=h;have:=Option.some.inj h';omega
   ·simp at h;omega
  ·have hk':some w.heap.size=some k:=hk;have:=Option.some.inj hk';omega
theorem rowForm {w:World} {v:Value} {n:Nat} {xs:List Value} {b sz:Nat} {e:TypeId} (h:w.ownsRow b e sz v n xs):∃a m c,v=.slice a m c:=by
 rcases row_cases h with⟨rfl,_⟩|⟨_,_,rfl,_⟩<;>exact⟨_,_,_,rfl⟩
theorem put_ok (v:Value) (bs:List Int) (hl:bs.length≤10000000) (n:Nat) (hn:n<18446744073709551616) (w:World) (h:BytesAt w v bs):
  Calls Tryz.prog 70 #[v,.int .u64 n] w fun e w'=>∃v',e=.returned v'∧w'.ownsRow w.heap.size 5 1 v' (bs++encN n).length (bvals (bs++encN n))∧Mod [] w w':=by
 obtain⟨i0,hi0,hz0,hz1,hz2⟩:=info_parts info_u8;have hcl:=Lib.hid (bclone_ok v bs (by omega) w h);have hle:=encN_len64 hn;obtain⟨E,hE⟩:∃E,encN n=E:=⟨_,rfl⟩;rw[hE]at hle⊢;have hEH:=Lib.hid hE;clear h hE;go_enter Tryz.func70,Tryz.ntmps70;go_wp2_with fail;refine hcl.out.mono ?_;rintro e w1 ⟨v1,rfl,hr1,hm1⟩;have hr1H:=Lib.hid hr1;have hm1H:=Lib.hid hm1;clear hr1 hm1 hcl;go_wp2_with fail;go_loopw [1,5] (fun nv ov wr=>∃(m:Nat) (pre:List Int),m<18446744073709551616∧nv=.int .u64 m∧E=pre++encN m∧wr.ownsRow w.heap.size 5 1 ov (bs++pre).length (bvals (bs++pre))∧Mod [] w wr) (fun nv _ _=>(intOf nv).toNat)
 case atStart=>exact⟨n,[],hn,rfl,hEH.out.symm,by rw[List.append_nil];exact hr1H.out,hm1H.out⟩
 case round=>
  obtain⟨m,pre,hm,rfl,hp,hr,hmod⟩:=hrel;have hpl:pre.length≤10:=by rw[hp]at hle;simp at hle;omega
  obtain⟨n',hn'⟩:∃n',n'=(bs++pre).length:=⟨_,rfl⟩;have hn2:n'≤10000010:=by rw[hn'];simp;omega
  rw[←hn']at hr;have hrH:=Lib.hid hr;have hmodH:=Lib.hid hmod;have hpH:=Lib.hid hp;have hnH:=Lib.hid hn';obtain⟨oa,ol,oc,rfl⟩:=rowForm hr;by_cases hge:128≤m
  ·have hnx:=encN_more (n:=m) (by omega);have hor:=or_more (m:Int);have hgei:decide ((m:Int)≥128)=true:=by rw[decide_eq_true_eq];omega
   have hn6:=cells1 wr (.int .u8 ((m:Int)%128+128)) 5;have hn6H:=Lib.hid hn6;have hr6H:=Lib.hid (row_mod hrH.out ((Mod.refl [] wr).alloc (.cells #[.int .u8 ((m:Int)%128+128)] 5)) (by simp));have hm6H:=Lib.hid (hmodH.out.alloc (.cells #[.int .u8 ((m:Int)%128+128)] 5));have hnxH:=Lib.hid hnx;clear hn6 hnx hr hmod hp hn';go_wp2_with (at_builtin;refine wpList_append_row _ rfl _ _ 81 rfl 5 i0 (.int .u8 0) 1 1 Tryz.underlying81 hi0 hz0 hz1 hz2 rfl (by decide) (.slice oa ol oc) n' (bvals (bs++pre)) rfl (row_base hr6H.out (Nat.zero_le _)) ⟨wr.heap.size,0,none⟩ 1 1 [.int .u8 ((m:Int)%128+128)] rfl rfl hn6H.out (by simp[Value.oneCell']) (by unfold maxLen;omega) (by omega) ?_;intro v7 w7 hown7 hgrow7 hfr7;have hown7:=Lib.hid hown7;have hgrow7:=Lib.hid hgrow7;have hfr7:=Lib.hid hfr7);go_roundw
   case rel=>
    refine⟨m/128,pre++[((m%128+128:Nat):Int)],by omega,by go_num,by rw[hpH.out,hnxH.out];simp,?_,hm6H.out.grown hgrow7.out fun k hk=>.inr (hr6H.out.lt k hk).1⟩;have h1:=hown7.out;rw[hnH.out, ←List.append_assoc,bvals_snoc,List.length_append]at*;refine row_all (by simpa using h1) fun g hg=> ?_
    rcases hfr7.out g hg with h|h
    ·exact(hr6H.out.lt g h).1
    ·have:=hm6H.out.size;omega
   case measure=>simp[intOf];omega
  ·have hnx:=encN_last (n:=m) (by omega);have hgei:decide ((m:Int)≥128)=false:=by rw[decide_eq_false_iff_not];omega
   have hmod256:(m:Int)%256=m:=by omega
   have hn6:=cells1 wr (.int .u8 ((m:Int))) 5;have hn6H:=Lib.hid hn6;have hr6H:=Lib.hid (row_mod hrH.out ((Mod.refl [] wr).alloc (.cells #[.int .u8 ((m:Int))] 5)) (by simp));have hm6H:=Lib.hid (hmodH.out.alloc (.cells #[.int .u8 ((m:Int))] 5));have hnxH:=Lib.hid hnx;clear hn6 hnx hr hmod hp hn';go_wp2_with (at_builtin;refine wpList_append_row _ rfl _ _ 81 rfl 5 i0 (.int .u8 0) 1 1 Tryz.underlying81 hi0 hz0 hz1 hz2 rfl (by decide) (.slice oa ol oc) n' (bvals (bs++pre)) rfl (row_base hr6H.out (Nat.zero_le _)) ⟨wr.heap.size,0,none⟩ 1 1 [.int .u8 (m:Int)] rfl rfl hn6H.out (by simp[Value.oneCell']) (by unfold maxLen;omega) (by omega) ?_;intro v7 w7 hown7 hgrow7 hfr7;have hown7:=Lib.hid hown7;have hgrow7:=Lib.hid hgrow7;have hfr7:=Lib.hid hfr7);go_ret;refine⟨_,rfl,?_,hm6H.out.grown hgrow7.out fun k hk=>.inr (hr6H.out.lt k hk).1⟩;have h1:=hown7.out;rw[hnH.out]at h1;rw[hpH.out,hnxH.out, ←List.append_assoc,bvals_snoc,List.length_append];refine row_all (by simpa using h1) fun g hg=> ?_
   rcases hfr7.out g hg with h|h
   ·exact(hr6H.out.lt g h).1
   ·have:=hm6H.out.size;omega
def evA (e:Ev):Array Value:=#[.int .i64 e.p,.int .i64 e.op,.int .u64 e.h,.int .u64 e.arg,.int .i64 e.err]
theorem evcheck_ok {e:Ev} (h:e.ok) (w:World):Calls Tryz.prog 69 #[.agg (evA e)] w fun r w'=>r=.returned (.int .i64 0)∧Mod [] w w':=by
 obtain⟨p,op,hh,arg,err⟩:=e;obtain⟨h1,h2, -, -,h5⟩:=h;simp only at h1 h2 h5;unfold evA;simp only;have p1:decide (p<1)=false:=by rw[decide_eq_false_iff_not];omega
 have p2:decide (p>64)=false:=by rw[decide_eq_false_iff_not];omega
 have e1:decide (err<0)=false:=by rw[decide_eq_false_iff_not];omega
 have e2:decide (err>29)=false:=by rw[decide_eq_false_iff_not];omega
 rcases h2 with h2|rfl|rfl
 ·have o1:decide (op≥1)=true:=by rw[decide_eq_true_eq];omega
  have o2:decide (op≤11)=true:=by rw[decide_eq_true_eq];omega
  go_enter Tryz.func69,Tryz.ntmps69;go_wp2;go_ret;exact⟨rfl,(Mod.refl _ _).alloc _⟩
 ·go_enter Tryz.func69,Tryz.ntmps69;go_wp2;go_ret;exact⟨rfl,(Mod.refl _ _).alloc _⟩
 ·go_enter Tryz.func69,Tryz.ntmps69;go_wp2;go_ret;exact⟨rfl,(Mod.refl _ _).alloc _⟩
theorem counts_ok (e:Ev) (w:World):Calls Tryz.prog 37 #[.agg (evA e)] w fun r w'=>r=.returned (.bool e.counts)∧Mod [] w w':=by
 obtain⟨p,op,hh,arg,err⟩:=e;unfold evA Ev.counts;simp only;by_cases a:op=32
 ·subst a;go_enter Tryz.func37,Tryz.ntmps37;go_wp2;go_ret;exact⟨by simp,(Mod.refl _ _).alloc _⟩
 ·by_cases b:op=33
  ·subst b;go_enter Tryz.func37,Tryz.ntmps37;go_wp2;go_ret;exact⟨by simp,(Mod.refl _ _).alloc _⟩
  ·have z1:(op != 32)=true:=by simpa using a
   have z2:(op != 33)=true:=by simpa using b
   have z3:(decide (op≠32)&&decide (op≠33))=true:=by simp[a,b]
   rw[z3];clear a b z3;go_enter Tryz.func37,Tryz.ntmps37;go_wp2;go_ret;exact⟨rfl,(Mod.refl _ _).alloc _⟩
end Go.Proofs.YtgfdeiijblakfaaGreat
