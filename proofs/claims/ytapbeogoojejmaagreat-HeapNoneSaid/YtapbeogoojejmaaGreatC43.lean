/- Joined contracts. No conditions. -/
import Derived.Test.YtapbeogoojejmaaGreatCS
import Derived.Test.YtapbeogoojejmaaGreatC30
import Derived.Test.YtapbeogoojejmaaGreatC31
import Derived.Test.YtapbeogoojejmaaGreatC42
namespace Go.Proofs.YtapbeogoojejmaaGreat
open Go Go.RowKit Go.Stg
theorem config_walk2 (v0:Value) (f:Cf) (v1:Value) (xs:List Int) (what n:Int) (h0:0≤what) (h1:what≤255) (hn0: -9223372036854775808≤n) (hn1:n≤9223372036854775807) (W:World) (k0:v0=.agg (cfA f)∧CfR f) (hx:Ty.NumsAt W v1 xs):
  Calls Tryz.prog 4 #[v0,v1,.int .u8 what,.int .i64 n] W fun e w'=>e=.returned (.bool true)∧Mod [] W w':=by
 obtain⟨rfl,hf⟩:=k0;exact config_walk f hf v1 xs what n h0 h1 hn0 hn1 W hx
end Go.Proofs.YtapbeogoojejmaaGreat
namespace Go.Proofs.YtapbeogoojejmaaGreat
open Go Go.RowKit Go.Stg
def NulH (w:World) (q:Option Addr):Prop:=q=none∨∃b,q=some ⟨b,0,none⟩∧w.heap[b]? =some (.cells #[.pointer none,.pointer none,.pointer none,.pointer none,.pointer none,.pointer none,.map none] 40 (0,0))
theorem NulH.mod {w w':World} {q:Option Addr} (h:NulH w q) (hm:Mod [] w w'):NulH w' q:=by
 rcases h with h|⟨b,h1,h2⟩
 ·exact .inl h
 ·exact .inr ⟨b,h1,hm.at h2 (by simp)⟩
section
variable {w:World} {q:Option Addr} (h:NulH w q)
include h
theorem nulh_works:Calls Tryz.prog 38 #[.pointer q] w fun e w'=>e=.returned (.bool false)∧Mod [] w w':=by
 have hnil:∀w,(binOp .neq 38 (.map none) (.map none)).run Tryz.prog w=.ok (.bool false) w:=fun w=>run_neq_map_nil w _ _ _ none Tryz.underlying38
 rcases h with rfl|⟨b,rfl,hb⟩
 ·go_enter Tryz.func38,Tryz.ntmps38;go_wp2;go_ret;exact⟨rfl,Mod.refl _ _⟩
 ·have hcb:=cells_of hb;clear hb;go_enter Tryz.func38,Tryz.ntmps38;go_wp2;go_ret;exact⟨rfl,Mod.refl _ _⟩
theorem nulh_alive (p:Int):Calls Tryz.prog 13 #[.pointer q,.int .i64 p] w fun e w'=>e=.returned (.bool false)∧Mod [] w w':=by
 have hW:=Lib.hid (nulh_works h);clear h;go_enter Tryz.func13,Tryz.ntmps13;go_wp2_with fail;refine hW.out.mono ?_;rintro e w1 ⟨rfl,hm⟩;go_wp2_with fail;go_ret;exact⟨rfl,hm⟩
theorem nulh_end (p:Int):Calls Tryz.prog 11 #[.pointer q,.int .i64 p] w fun e w'=>e=.returned (.tuple #[.int .i64 0,.int .i64 15])∧Mod [] w w':=by
 have hW:=Lib.hid fun w' hm=>nulh_alive (h.mod (w':=w') hm) p
 clear h;go_enter Tryz.func11,Tryz.ntmps11;go_wp2_with fail;refine(hW.out _ ?_).mono ?_
 ·first|exact Mod.refl _ _|exact((Mod.refl [] w).alloc _)|exact((Mod.refl [] w).alloc _).alloc _
 rintro e w1 ⟨rfl,hm⟩;go_wp2_with fail;go_ret2;exact⟨rfl,by first|exact hm|exact((Mod.refl [] w).alloc _).nil_then hm|exact(((Mod.refl [] w).alloc _).alloc _).nil_then hm⟩
theorem nulh_act {eb:Nat} {p o1 o2 o3:Int} (he:w.heap[eb]? =some (.cells #[.int .i64 p,.int .i64 o1,.int .u64 o2,.int .u64 o3,.int .i64 0] 98 (0,0))) (f:Value):
  Calls Tryz.prog 41 #[.pointer q,.pointer (some ⟨eb,0,none⟩),f] w fun e w'=>e=.returned (.int .i64 15)∧Mod [] w w':=by
 have hA:=Lib.hid (nulh_alive h p);have hce:=cells_of he;have hfe:=frozen_of he;clear h he;go_enter Tryz.func41,Tryz.ntmps41;go_wp2_with fail;refine hA.out.mono ?_;rintro e w1 ⟨rfl,hm⟩;clear hce hfe;go_wp2_with fail;go_ret;exact⟨rfl,hm⟩
theorem nulh_alloc (p tag d:Int):Calls Tryz.prog 8 #[.pointer q,.int .i64 p,.int .i64 tag,.int .u64 d] w fun e w'=>e=.returned (.tuple #[.int .u64 0,.int .i64 15])∧Mod [] w w':=by
 have hS1:=(((((((Scene.empty w).alloc (.cells #[.pointer q] 31)).alloc (.cells #[.int .i64 p] 3)).alloc (.cells #[.int .i64 tag] 3)).alloc (.cells #[.int .u64 d] 22)).alloc (.cells #[.int .i64 p,.int .i64 1,.int .u64 0,.int .u64 (u64 tag),.int .i64 0] 98)).alloc (.cells #[.pointer (some ⟨w.heap.size+1+1+1+1,0,none⟩)] 96));simp only[size_alloc]at hS1;have hS1:=Lib.hid hS1;have hA:=Lib.hid fun w' hm=> @nulh_act w' q (h.mod hm)
 clear h;have hv:=Lib.hid (cells_of (hS1.out.block 0 rfl));go_enter Tryz.func8,Tryz.ntmps8;go_wp2_with fail;refine(hA.out _ hS1.out.mod (hS1.out.block 1 rfl) _).mono ?_;rintro e w1 ⟨rfl,hm⟩;have hS2:=hS1.out.then hm;have hm2:=Lib.hid hS2.mod;clear hS2 hA hm;go_wp2_with fail;go_ret2;exact⟨rfl,hm2.out⟩
theorem nulh_get (p o i:Int):Calls Tryz.prog 9 #[.pointer q,.int .i64 p,.int .u64 o,.int .i64 i] w fun e w'=>e=.returned (.tuple #[.int .u64 0,.int .i64 15])∧Mod [] w w':=by
 have hS1:=(((((((Scene.empty w).alloc (.cells #[.pointer q] 31)).alloc (.cells #[.int .i64 p] 3)).alloc (.cells #[.int .u64 o] 23)).alloc (.cells #[.int .i64 i] 3)).alloc (.cells #[.int .u64 0] 22)).alloc (.cells #[.int .i64 p,.int .i64 3,.int .u64 o,.int .u64 (u64 i),.int .i64 0] 98));simp only[size_alloc]at hS1;have hS1:=Lib.hid hS1;have hA:=Lib.hid fun w' hm=> @nulh_act w' q (h.mod hm)
 clear h;go_enter Tryz.func9,Tryz.ntmps9;go_wp2_with fail;refine(hA.out _ hS1.out.mod (hS1.out.block 0 rfl) _).mono ?_;rintro e w1 ⟨rfl,hm⟩;have hS2:=hS1.out.then hm;have hc:=cells_of (hS2.block 1 rfl);have hm2:=Lib.hid hS2.mod;clear hS2 hA hm;go_wp2_with fail;go_ret2;exact⟨rfl,hm2.out⟩
theorem nulh_load (p o off n:Int):Calls Tryz.prog 10 #[.pointer q,.int .i64 p,.int .u64 o,.int .i64 off,.int .i64 n] w fun e w'=>e=.returned (.tuple #[.slice none 0 0,.int .i64 15])∧Mod [] w w':=by
 have hS1:=((((((((Scene.empty w).alloc (.cells #[.pointer q] 31)).alloc (.cells #[.int .i64 p] 3)).alloc (.cells #[.int .u64 o] 23)).alloc (.cells #[.int .i64 off] 3)).alloc (.cells #[.int .i64 n] 3)).alloc (.cells #[.slice none 0 0] 49)).alloc (.cells #[.int .i64 p,.int .i64 5,.int .u64 o,.int .u64 (u64 off),.int .i64 0] 98));simp only[size_alloc]at hS1;have hS1:=Lib.hid hS1;have hA:=Lib.hid fun w' hm=> @nulh_act w' q (h.mod hm)
 clear h;go_enter Tryz.func10,Tryz.ntmps10;go_wp2_with fail;refine(hA.out _ hS1.out.mod (hS1.out.block 0 rfl) _).mono ?_;rintro e w1 ⟨rfl,hm⟩;have hS2:=hS1.out.then hm;have hc:=cells_of (hS2.block 1 rfl);have hm2:=Lib.hid hS2.mod;clear hS2 hA hm;go_wp2_with fail;go_ret2;exact⟨rfl,hm2.out⟩
theorem nulh_free (p o:Int):Calls Tryz.prog 14 #[.pointer q,.int .i64 p,.int .u64 o] w fun e w'=>e=.returned (.int .i64 15)∧Mod [] w w':=by
 have hS1:=(((((Scene.empty w).alloc (.cells #[.pointer q] 31)).alloc (.cells #[.int .i64 p] 3)).alloc (.cells #[.int .u64 o] 23)).alloc (.cells #[.int .i64 p,.int .i64 2,.int .u64 o,.int .u64 0,.int .i64 0] 98));simp only[size_alloc]at hS1;have hS1:=Lib.hid hS1;have hA:=Lib.hid fun w' hm=> @nulh_act w' q (h.mod hm)
 clear h;go_enter Tryz.func14,Tryz.ntmps14;go_wp2_with fail;refine(hA.out _ hS1.out.mod (hS1.out.block 0 rfl) _).mono ?_;rintro e w1 ⟨rfl,hm⟩;have hS2:=hS1.out.then hm;have hm2:=Lib.hid hS2.mod;clear hS2 hA hm;go_wp2_with fail;go_ret;exact⟨rfl,hm2.out⟩
theorem nulh_set (p o i v:Int):Calls Tryz.prog 15 #[.pointer q,.int .i64 p,.int .u64 o,.int .i64 i,.int .u64 v] w fun e w'=>e=.returned (.int .i64 15)∧Mod [] w w':=by
 have hS1:=(((((((Scene.empty w).alloc (.cells #[.pointer q] 31)).alloc (.cells #[.int .i64 p] 3)).alloc (.cells #[.int .u64 o] 23)).alloc (.cells #[.int .i64 i] 3)).alloc (.cells #[.int .u64 v] 22)).alloc (.cells #[.int .i64 p,.int .i64 4,.int .u64 o,.int .u64 (u64 i),.int .i64 0] 98));simp only[size_alloc]at hS1;have hS1:=Lib.hid hS1;have hA:=Lib.hid fun w' hm=> @nulh_act w' q (h.mod hm)
 clear h;go_enter Tryz.func15,Tryz.ntmps15;go_wp2_with fail;refine(hA.out _ hS1.out.mod (hS1.out.block 0 rfl) _).mono ?_;rintro e w1 ⟨rfl,hm⟩;have hS2:=hS1.out.then hm;have hm2:=Lib.hid hS2.mod;clear hS2 hA hm;go_wp2_with fail;go_ret;exact⟨rfl,hm2.out⟩
theorem nulh_store (p o off:Int):Calls Tryz.prog 16 #[.pointer q,.int .i64 p,.int .u64 o,.int .i64 off,.slice none 0 0] w fun e w'=>e=.returned (.int .i64 15)∧Mod [] w w':=by
 have hS1:=(((((((Scene.empty w).alloc (.cells #[.pointer q] 31)).alloc (.cells #[.int .i64 p] 3)).alloc (.cells #[.int .u64 o] 23)).alloc (.cells #[.int .i64 off] 3)).alloc (.cells #[.slice none 0 0] 49)).alloc (.cells #[.int .i64 p,.int .i64 6,.int .u64 o,.int .u64 (u64 off),.int .i64 0] 98));simp only[size_alloc]at hS1;have hS1:=Lib.hid hS1;have hA:=Lib.hid fun w' hm=> @nulh_act w' q (h.mod hm)
 clear h;go_enter Tryz.func16,Tryz.ntmps16;go_wp2_with fail;refine(hA.out _ hS1.out.mod (hS1.out.block 0 rfl) _).mono ?_;rintro e w1 ⟨rfl,hm⟩;have hS2:=hS1.out.then hm;have hm2:=Lib.hid hS2.mod;clear hS2 hA hm;go_wp2_with fail;go_ret;exact⟨rfl,hm2.out⟩
theorem nulh_copy (p o t2 sr fr n:Int):Calls Tryz.prog 17 #[.pointer q,.int .i64 p,.int .u64 o,.int .i64 t2,.int .u64 sr,.int .i64 fr,.int .i64 n] w fun e w'=>e=.returned (.int .i64 15)∧Mod [] w w':=by
 have hS1:=(((((((((Scene.empty w).alloc (.cells #[.pointer q] 31)).alloc (.cells #[.int .i64 p] 3)).alloc (.cells #[.int .u64 o] 23)).alloc (.cells #[.int .i64 t2] 3)).alloc (.cells #[.int .u64 sr] 23)).alloc (.cells #[.int .i64 fr] 3)).alloc (.cells #[.int .i64 n] 3)).alloc (.cells #[.int .i64 p,.int .i64 7,.int .u64 o,.int .u64 sr,.int .i64 0] 98));simp only[size_alloc]at hS1;have hS1:=Lib.hid hS1;have hA:=Lib.hid fun w' hm=> @nulh_act w' q (h.mod hm)
 clear h;go_enter Tryz.func17,Tryz.ntmps17;go_wp2_with fail;refine(hA.out _ hS1.out.mod (hS1.out.block 0 rfl) _).mono ?_;rintro e w1 ⟨rfl,hm⟩;have hS2:=hS1.out.then hm;have hm2:=Lib.hid hS2.mod;clear hS2 hA hm;go_wp2_with fail;go_ret;exact⟨rfl,hm2.out⟩
theorem nulh_transfer (p o r:Int):Calls Tryz.prog 18 #[.pointer q,.int .i64 p,.int .u64 o,.int .i64 r] w fun e w'=>e=.returned (.int .i64 15)∧Mod [] w w':=by
 have hS1:=((((((Scene.empty w).alloc (.cells #[.pointer q] 31)).alloc (.cells #[.int .i64 p] 3)).alloc (.cells #[.int .u64 o] 23)).alloc (.cells #[.int .i64 r] 3)).alloc (.cells #[.int .i64 p,.int .i64 8,.int .u64 o,.int .u64 (u64 r),.int .i64 0] 98));simp only[size_alloc]at hS1;have hS1:=Lib.hid hS1;have hA:=Lib.hid fun w' hm=> @nulh_act w' q (h.mod hm)
 clear h;go_enter Tryz.func18,Tryz.ntmps18;go_wp2_with fail;refine(hA.out _ hS1.out.mod (hS1.out.block 0 rfl) _).mono ?_;rintro e w1 ⟨rfl,hm⟩;have hS2:=hS1.out.then hm;have hm2:=Lib.hid hS2.mod;clear hS2 hA hm;go_wp2_with fail;go_ret;exact⟨rfl,hm2.out⟩
theorem nulh_lendl (p o r op acc m:Int):Calls Tryz.prog 77 #[.pointer q,.int .i64 p,.int .u64 o,.int .i64 r,.int .i64 op,.int .i64 acc,.int .i64 m] w fun e w'=>e=.returned (.int .i64 15)∧Mod [] w w':=by
 have hS1:=((((((((Scene.empty w).alloc (.cells #[.pointer q] 31)).alloc (.cells #[.int .i64 p] 3)).alloc (.cells #[.int .u64 o] 23)).alloc (.cells #[.int .i64 r] 3)).alloc (.cells #[.int .i64 acc] 3)).alloc (.cells #[.int .i64 m] 3)).alloc (.cells #[.int .i64 p,.int .i64 op,.int .u64 o,.int .u64 (u64 r),.int .i64 0] 98));simp only[size_alloc]at hS1;have hS1:=Lib.hid hS1;have hA:=Lib.hid fun w' hm=> @nulh_act w' q (h.mod hm)
 clear h;go_enter Tryz.func77,Tryz.ntmps77;go_wp2_with fail;refine(hA.out _ hS1.out.mod (hS1.out.block 0 rfl) _).mono ?_;rintro e w1 ⟨rfl,hm⟩;have hS2:=hS1.out.then hm;have hm2:=Lib.hid hS2.mod;clear hS2 hA hm;go_wp2_with fail;go_ret;exact⟨rfl,hm2.out⟩
theorem nulh_release (p o:Int):Calls Tryz.prog 21 #[.pointer q,.int .i64 p,.int .u64 o] w fun e w'=>e=.returned (.int .i64 15)∧Mod [] w w':=by
 have hS1:=(((((Scene.empty w).alloc (.cells #[.pointer q] 31)).alloc (.cells #[.int .i64 p] 3)).alloc (.cells #[.int .u64 o] 23)).alloc (.cells #[.int .i64 p,.int .i64 11,.int .u64 o,.int .u64 0,.int .i64 0] 98));simp only[size_alloc]at hS1;have hS1:=Lib.hid hS1;have hA:=Lib.hid fun w' hm=> @nulh_act w' q (h.mod hm)
 clear h;go_enter Tryz.func21,Tryz.ntmps21;go_wp2_with fail;refine(hA.out _ hS1.out.mod (hS1.out.block 0 rfl) _).mono ?_;rintro e w1 ⟨rfl,hm⟩;have hS2:=hS1.out.then hm;have hm2:=Lib.hid hS2.mod;clear hS2 hA hm;go_wp2_with fail;go_ret;exact⟨rfl,hm2.out⟩
theorem nulh_share (p o r:Int):Calls Tryz.prog 19 #[.pointer q,.int .i64 p,.int .u64 o,.int .i64 r] w fun e w'=>e=.returned (.int .i64 15)∧Mod [] w w':=by
 have hL:=Lib.hid (nulh_lendl h);clear h;go_enter Tryz.func19,Tryz.ntmps19;go_wp2_with fail;refine(hL.out _ _ _ _ _ _).mono ?_;rintro e w1 ⟨rfl,hm⟩;go_wp2_with fail;go_ret;exact⟨rfl,hm⟩
theorem nulh_lend (p o r:Int):Calls Tryz.prog 20 #[.pointer q,.int .i64 p,.int .u64 o,.int .i64 r] w fun e w'=>e=.returned (.int .i64 15)∧Mod [] w w':=by
 have hL:=Lib.hid (nulh_lendl h);clear h;go_enter Tryz.func20,Tryz.ntmps20;go_wp2_with fail;refine(hL.out _ _ _ _ _ _).mono ?_;rintro e w1 ⟨rfl,hm⟩;go_wp2_with fail;go_ret;exact⟨rfl,hm⟩
end
end Go.Proofs.YtapbeogoojejmaaGreat
