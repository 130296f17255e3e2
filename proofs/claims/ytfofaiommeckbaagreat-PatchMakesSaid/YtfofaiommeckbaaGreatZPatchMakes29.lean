/- Walks: the closure of (piece).right. -/
import Derived.Test.YtfofaiommeckbaaGreatZPatchMakesB
import Derived.Test.YtfofaiommeckbaaGreatZPatchMakes27
import Derived.Test.YtfofaiommeckbaaGreatZPatchMakes28
open List renaming getElem?_toArray → bN, getElem?_cons_zero → bO, getElem?_cons_succ → bP
set_option linter.unusedVariables false
set_option maxRecDepth 100000
set_option maxHeartbeats 40000000
namespace Go.Proofs.YtfofaiommeckbaaGreat
open Go.RowKit WalkM WireM
def Xj:Array Value:=#[.int .u8 0,.slice none 0 0,.slice none 0 0,.slice none 0 0,.int .u8 0,.slice none 0 0,.slice none 0 0,.slice none 0 0,.slice none 0 0,.slice none 0 0]
def Zgy (v:Value):Array Value:=match v with
 | .agg c=>c
 |_=>Xj
def Et (G:Int→Option Value)(x:Int):Array Value:=Zgy ((G x).getD (.agg Xj))
theorem NodesG.some {w:World} {G:Int→Option Value} {F:Int→Option NodeD}(h:NodesG w G F) {x:Int} {d:NodeD}(hF:F x=some d):G x=some (.agg (Et G x))∧NodeC w d (Et G x):=by
 have:=h x;rw[hF]at this;obtain⟨c,hc,hn⟩:=this;have e:Et G x=c:=(by rw[Et,hc];rfl);rw[e];exact⟨hc,hn⟩
theorem NodesG.none {w:World} {G:Int→Option Value} {F:Int→Option NodeD}(h:NodesG w G F) {x:Int}(hF:F x=none):G x=none∧Et G x=Xj:=by
 have:=h x;rw[hF]at this;have hg:G x=Option.none:=this;exact⟨hg,by rw[Et,hg];rfl⟩
theorem NodesG.val {w:World} {G:Int→Option Value} {F:Int→Option NodeD}(h:NodesG w G F)(x:Int):(G x).getD (.agg Xj)=.agg (Et G x)∧(G x).isSome=(F x).isSome:=by
 cases hF:F x with
 |none=>obtain⟨h1,h2⟩:=h.none hF;rw[h1,h2];exact⟨rfl,rfl⟩
 |some d=>obtain⟨h1,-⟩:=h.some hF;rw[h1];exact⟨rfl,rfl⟩
theorem NodesG.ten {w:World} {G:Int→Option Value} {F:Int→Option NodeD}(h:NodesG w G F)(x:Int):∃c0 c1 c2 c3 c4 c5 c6 c7 c8 c9,Et G x=#[c0,c1,c2,c3,c4,c5,c6,c7,c8,c9]:=by
 cases hF:F x with
 |none=>rw[(h.none hF).2];exact⟨_,_,_,_,_,_,_,_,_,_,rfl⟩
 |some d=>exact(h.some hF).2.ten
theorem NodesG.one {w:World} {G:Int→Option Value} {F:Int→Option NodeD}(h:NodesG w G F)(x:Int):(Et G x).toList.all (·.oneCell')=true:=by
 cases hF:F x with
 |none=>rw[(h.none hF).2];rfl
 |some d=>exact(h.some hF).2.oneL
theorem Rk (w:World):(zeroValue 52).run Tryz.prog w=.ok (.agg Xj) w:=Tryz.zeroValue52 w
theorem Zfe (h ob n:Nat)(l o s:Value)(G:Int→Option Value)(F:Int→Option NodeD)(x:Int)(w0 w:World)(hp:Blk w h 101 #[l,o,.map (some ob),s])(hm:MapF w ob n G)(hg:NodesG w0 G F)(hx:inI x):
  Calls Tryz.prog 181 #[.int .i64 x,.pointer (some ⟨h,0,none⟩)] w fun e w'=>e=.returned (.tuple #[.agg (Et G x),.bool (F x).isSome])∧Below w.heap.size w w':=by
 obtain⟨hv,hs⟩:=hg.val x;have HONE:=Hd (hg.one x);obtain⟨c0,c1,c2,c3,c4,c5,c6,c7,c8,c9,hc⟩:=hg.ten x;rw[hc]at hv HONE⊢;rw[←hs];have RG:=fun(W:World) (hw:Below w.heap.size w W)=>MapF.run_getOk (T:=98) (hm.below hw lR) Tryz.underlying98 (Rk W) hx;rw[hv]at RG;obtain⟨is,his⟩:=eX ((G x).isSome);rw[←his]at RG⊢;have p2:=hp.cell 2;simp only[bN,bO,bP]at p2;have hpl:=hp.lt;have HRG:=Hd RG;have RG1:=HRG.out _ ((Below.refl w.heap.size w).alloc lR (.cells #[.int .u8 0,.slice none 0 0,.slice none 0 0,.slice none 0 0,.int .u8 0,.slice none 0 0,.slice none 0 0,.slice none 0 0,.slice none 0 0,.slice none 0 0] 52));have HBR:=Hd (show Blk (w.alloc (.cells #[.int .u8 0,.slice none 0 0,.slice none 0 0,.slice none 0 0,.int .u8 0,.slice none 0 0,.slice none 0 0,.slice none 0 0,.slice none 0 0,.slice none 0 0] 52)) w.heap.size 52 #[.int .u8 0,.slice none 0 0,.slice none 0 0,.slice none 0 0,.int .u8 0,.slice none 0 0,.slice none 0 0,.slice none 0 0,.slice none 0 0,.slice none 0 0]from Blk.new _ _ _);have HB1:=Hd ((Below.refl w.heap.size w).alloc lR (.cells #[.int .u8 0,.slice none 0 0,.slice none 0 0,.slice none 0 0,.int .u8 0,.slice none 0 0,.slice none 0 0,.slice none 0 0,.slice none 0 0,.slice none 0 0] 52));clear RG hm hg hp hv hs hc his hx;go_enter Tryz.func181,Tryz.ntmps181;go_wp2_with (refine Ab rfl 52 (.tmp 5) (.tmp 12) rfl (w.heap.size+1) #[c0,c1,c2,c3,c4,c5,c6,c7,c8,c9] rfl rfl 52 #[.int .u8 0,.slice none 0 0,.slice none 0 0,.slice none 0 0,.int .u8 0,.slice none 0 0,.slice none 0 0,.slice none 0 0,.slice none 0 0,.slice none 0 0] (by have h1:=Blk.new (w.alloc (.cells #[.int .u8 0,.slice none 0 0,.slice none 0 0,.slice none 0 0,.int .u8 0,.slice none 0 0,.slice none 0 0,.slice none 0 0,.slice none 0 0,.slice none 0 0] 52)) 52 #[.int .u8 0,.slice none 0 0,.slice none 0 0,.slice none 0 0,.int .u8 0,.slice none 0 0,.slice none 0 0,.slice none 0 0,.slice none 0 0,.slice none 0 0];simpa using h1) (by kernel_rfl) rfl HONE.out ?_);rintro w3 hblk hbl hoth hsize;have HB3:=Hd ((HB1.out.alloc HB1.out.size (.cells #[.int .u8 0,.slice none 0 0,.slice none 0 0,.slice none 0 0,.int .u8 0,.slice none 0 0,.slice none 0 0,.slice none 0 0,.slice none 0 0,.slice none 0 0] 52)).trans (hbl w.heap.size (Nat.le_succ _)));have HR3:=Hd (show Blk w3 w.heap.size 52 #[.int .u8 0,.slice none 0 0,.slice none 0 0,.slice none 0 0,.int .u8 0,.slice none 0 0,.slice none 0 0,.slice none 0 0,.slice none 0 0,.slice none 0 0]from(hoth w.heap.size (by omega)).trans (HBR.out.alloc _));have k0:=hblk.cell 0;have k1:=hblk.cell 1;have k2:=hblk.cell 2;have k3:=hblk.cell 3;have k4:=hblk.cell 4;have k5:=hblk.cell 5;have k6:=hblk.cell 6;have k7:=hblk.cell 7;have k8:=hblk.cell 8;have k9:=hblk.cell 9;simp only[bN,bO,bP]at k0 k1 k2 k3 k4 k5 k6 k7 k8 k9;clear hblk hbl hoth hsize RG1 p2 hpl;go_wp2_with (refine Ab rfl 52 (.tmp 3) (.tmp 14) rfl w.heap.size #[c0,c1,c2,c3,c4,c5,c6,c7,c8,c9] rfl rfl 52 #[.int .u8 0,.slice none 0 0,.slice none 0 0,.slice none 0 0,.int .u8 0,.slice none 0 0,.slice none 0 0,.slice none 0 0,.slice none 0 0,.slice none 0 0] HR3.out (by kernel_rfl) rfl HONE.out ?_);rintro w4 hblk hbl hoth hsize;have HK:=Hd hblk;have HB4:=Hd (HB3.out.trans (hbl w.heap.size lR));clear hblk hbl hoth hsize;go_wp2_with fail;exact bodyPost_ret (v:=.tuple #[.agg #[c0,c1,c2,c3,c4,c5,c6,c7,c8,c9],.bool is]) (Bi Tryz.results181 _ _ w.heap.size _ _ _ rfl HK.out Tryz.underlying52 rfl (by kernel_rfl)) rfl ⟨rfl,HB4.out⟩
end Go.Proofs.YtfofaiommeckbaaGreat
