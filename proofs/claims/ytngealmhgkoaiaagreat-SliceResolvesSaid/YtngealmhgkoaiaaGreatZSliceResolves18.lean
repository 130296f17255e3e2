/- Walks: slices.Clone of numbers, node.copyLeaf. -/
import Derived.Test.YtngealmhgkoaiaaGreatZSliceResolvesB
import Derived.Test.YtngealmhgkoaiaaGreatZSliceResolves09
import Derived.Test.YtngealmhgkoaiaaGreatZSliceResolves15
set_option linter.unusedVariables false
set_option maxRecDepth 100000
set_option maxHeartbeats 40000000
namespace Go.Proofs.YtngealmhgkoaiaaGreat
open Go.RowKit WireM
theorem Lf (L:List Int):∀u∈ivs .i64 L,u.oneCell'=true:=by
 intro u hu;simp only[ivs,List.mem_map]at hu;obtain⟨n,_,rfl⟩:=hu
 rfl
theorem Ya (v:Value)(L:List Int)(w:World)(h:Rd w v (ivs .i64 L))(hn:L.length<1099511627776):
  Calls Tryz.prog 153 #[v] w fun e w'=>∃v',e=.returned v'∧Own w' w.heap.size 3 v' (ivs .i64 L)∧Below w.heap.size w w':=by
 have hl:(ivs .i64 L).length=L.length:=Dq .i64 L;have h1:=Lf L;rcases h.nilOr with rfl|⟨a,cap,rfl⟩
 ·have h0:ivs .i64 L=[]:=by
   obtain⟨a,cap,e,_⟩:=h;simp only[Value.slice.injEq]at e;exact List.eq_nil_of_length_eq_zero e.2.1.symm
  rw[h0];clear h h0 hl h1;have q:∀w,(binOp .eql 50 (.slice none 0 0) (.slice none 0 0)).run Tryz.prog w=.ok (.bool true) w:=fun w=>Lib.run_eql_slice_nil w _ 3 none 0 0 0 0 Tryz.underlying50;go_enter Tryz.func153,Tryz.ntmps153;go_wp2_with fail;go_ret;exact⟨_,rfl,Own.nil _ _ _,bR⟩
 ·obtain⟨xs,hxs⟩:=eX (ivs .i64 L);rw[←hxs]at h h1 hl⊢;have hx:xs.length<1099511627776:=(by omega);have HR:=Hd h;have H1:=Hd h1;clear h h1 hl hxs hn;have q:∀w,(binOp .eql 50 (.slice (some a) xs.length cap) (.slice none 0 0)).run Tryz.prog w=.ok (.bool false) w:=fun w=>Lib.run_eql_slice_nil w _ 3 (some a) _ _ 0 0 Tryz.underlying50;go_enter Tryz.func153,Tryz.ntmps153;go_wp2_with (at_builtin;refine Ah rfl (.tmp 5) (.tmp 6) 50 rfl w.heap.size 3 _ 8 Bs _ [] rfl (Own.lit0 rfl lR) _ xs rfl (HR.out.alloc _) H1.out ?c2 ?c3 ?_);case c2=>simpa using hx
  case c3=>simp
  rintro v' w2 hown-hb;have HO:=Hd hown;have HB:=Hd hb;clear hown hb;go_wp2_with fail;go_ret;exact⟨_,rfl,HO.out,(bR.alloc lR _).trans HB.out⟩
theorem Own.ne_blk {w:World} {B g:Nat} {e t:TypeId} {v:Value} {xs:List Value} {cs:Array Value}(h:Own w B e v xs)(hb:Blk w g t cs)(hne:e≠t):v.ownBlock≠some g:=by
 intro hv;rcases h.2 with⟨rfl,_⟩|⟨g',cp,cur,rfl,hg,hh,_⟩
 ·simp[Value.ownBlock]at hv
 ·simp[Value.ownBlock]at hv;subst hv;rw[Blk]at hb;rw[hh]at hb;simp at hb;exact hne hb.2
def Ziy (w:World)(B:Nat)(d:LeafD)(c:Array Value):Prop:=
 ∃c0 c1 c2 c3 c4,c=#[c0,c1,c2,.int .u8 (d.source:Nat),c3,c4]∧Own w B 5 c0 (bvs d.box)∧Own w B 5 c1 (bvs d.sign)∧Own w B 5 c2 (bvs d.ident)∧Own w B 5 c3 (bvs d.par)∧Own w B 5 c4 (bvs d.sig)
def LfJ (B g p r:Nat)(d:LeafD)(o0 o1 o2 o3 o4:Value)(Z:Array Value)(i:Nat)(w:World):Prop:=
 ∃c0 c1 c2 c3 c4:Value,Blk w g 49 #[c0,c1,c2,.int .u8 (d.source:Nat),c3,c4]∧Blk w p 216 #[.pointer (some ⟨g,0,none⟩),.pointer (some ⟨g,1,none⟩),.pointer (some ⟨g,2,none⟩),.pointer (some ⟨g,4,none⟩),.pointer (some ⟨g,5,none⟩)]∧Blk w r 49 Z∧
  (if 0<i then Own w B 5 c0 (bvs d.box)else c0=o0)∧(if 1<i then Own w B 5 c1 (bvs d.sign)else c1=o1)∧(if 2<i then Own w B 5 c2 (bvs d.ident)else c2=o2)∧(if 3<i then Own w B 5 c3 (bvs d.par)else c3=o3)∧(if 4<i then Own w B 5 c4 (bvs d.sig)else c4=o4)
theorem Dg {w:World} {B:Nat} {e:TypeId} {v:Value} {xs:List Value}(h:Own w B e v xs):∃a n c,v=.slice a n c:=by
 obtain⟨a,c,e,_⟩:=h.rd;exact⟨_,_,_,e⟩
theorem Rh (d:LeafD)(c:Array Value)(w:World)(h:Xt w d c)(h60:d.box.length<1000000∧d.sign.length<1000000∧d.ident.length<1000000∧d.par.length<1000000∧d.sig.length<1000000):
  Calls Tryz.prog 179 #[.agg c] w fun e w'=>∃c',e=.returned (.agg c')∧Ziy w' w.heap.size d c'∧Below w.heap.size w w':=by
 obtain⟨a1,c1,a2,c2,a3,c3,a4,c4,a5,c5,rfl,h1,h2,h3,h4,h5⟩:=h;have C1:=Hd (fun(W:World) (hw:Below w.heap.size w W)=>Ce _ d.box W (h1.below hw lR) (by omega));have C2:=Hd (fun(W:World) (hw:Below w.heap.size w W)=>Ce _ d.sign W (h2.below hw lR) (by omega));have C3:=Hd (fun(W:World) (hw:Below w.heap.size w W)=>Ce _ d.ident W (h3.below hw lR) (by omega));have C4:=Hd (fun(W:World) (hw:Below w.heap.size w W)=>Ce _ d.par W (h4.below hw lR) (by omega));have C5:=Hd (fun(W:World) (hw:Below w.heap.size w W)=>Ce _ d.sig W (h5.below hw lR) (by omega));obtain⟨l1,hl1⟩:=eX d.box.length;obtain⟨l2,hl2⟩:=eX d.sign.length;obtain⟨l3,hl3⟩:=eX d.ident.length;obtain⟨l4,hl4⟩:=eX d.par.length;obtain⟨l5,hl5⟩:=eX d.sig.length;obtain⟨s,hsrc⟩:=eX d.source;rw[←hl1,←hl2,←hl3,←hl4,←hl5,←hsrc];rw[←hl1]at C1;rw[←hl2]at C2;rw[←hl3]at C3;rw[←hl4]at C4;rw[←hl5]at C5;have HS:=Hd hsrc;clear h1 h2 h3 h4 h5 hl1 hl2 hl3 hl4 hl5 hsrc h60;go_enter Tryz.func179,Tryz.ntmps179;go_wp2_with fail;obtain⟨wz,hwz⟩:=eX (((w.alloc (.cells #[.slice a1 l1 c1,.slice a2 l2 c2,.slice a3 l3 c3,.int .u8 (s:Nat),.slice a4 l4 c4,.slice a5 l5 c5] 49)).alloc (.cells #[.slice none 0 0,.slice none 0 0,.slice none 0 0,.int .u8 0,.slice none 0 0,.slice none 0 0] 49)).alloc (.cells #[.pointer (some ⟨w.heap.size,0,none⟩),.pointer (some ⟨w.heap.size,1,none⟩),.pointer (some ⟨w.heap.size,2,none⟩),.pointer (some ⟨w.heap.size,4,none⟩),.pointer (some ⟨w.heap.size,5,none⟩)] 216));have hA:=(Below.refl w.heap.size w).alloc lR (.cells #[.slice a1 l1 c1,.slice a2 l2 c2,.slice a3 l3 c3,.int .u8 (s:Nat),.slice a4 l4 c4,.slice a5 l5 c5] 49);have B0:=Hd (show Blk wz w.heap.size 49 #[.slice a1 l1 c1,.slice a2 l2 c2,.slice a3 l3 c3,.int .u8 (s:Nat),.slice a4 l4 c4,.slice a5 l5 c5] by rw[hwz];exact((Blk.new w _ _).alloc _).alloc _);have B1:=Hd (show Blk wz (w.heap.size+1) 49 #[.slice none 0 0,.slice none 0 0,.slice none 0 0,.int .u8 0,.slice none 0 0,.slice none 0 0] by
  have h1:=Blk.new (w.alloc (.cells #[.slice a1 l1 c1,.slice a2 l2 c2,.slice a3 l3 c3,.int .u8 (s:Nat),.slice a4 l4 c4,.slice a5 l5 c5] 49)) 49 #[.slice none 0 0,.slice none 0 0,.slice none 0 0,.int .u8 0,.slice none 0 0,.slice none 0 0];have h2:Blk ((w.alloc (.cells #[.slice a1 l1 c1,.slice a2 l2 c2,.slice a3 l3 c3,.int .u8 (s:Nat),.slice a4 l4 c4,.slice a5 l5 c5] 49)).alloc (.cells #[.slice none 0 0,.slice none 0 0,.slice none 0 0,.int .u8 0,.slice none 0 0,.slice none 0 0] 49)) (w.heap.size+1) 49 #[.slice none 0 0,.slice none 0 0,.slice none 0 0,.int .u8 0,.slice none 0 0,.slice none 0 0]:=(by simpa using h1);rw[hwz];exact h2.alloc _)
 have B2:=Hd (show Blk wz (w.heap.size+1+1) 216 #[.pointer (some ⟨w.heap.size,0,none⟩),.pointer (some ⟨w.heap.size,1,none⟩),.pointer (some ⟨w.heap.size,2,none⟩),.pointer (some ⟨w.heap.size,4,none⟩),.pointer (some ⟨w.heap.size,5,none⟩)] by rw[hwz];have:=Blk.new ((w.alloc (.cells #[.slice a1 l1 c1,.slice a2 l2 c2,.slice a3 l3 c3,.int .u8 (s:Nat),.slice a4 l4 c4,.slice a5 l5 c5] 49)).alloc (.cells #[.slice none 0 0,.slice none 0 0,.slice none 0 0,.int .u8 0,.slice none 0 0,.slice none 0 0] 49)) 216 #[.pointer (some ⟨w.heap.size,0,none⟩),.pointer (some ⟨w.heap.size,1,none⟩),.pointer (some ⟨w.heap.size,2,none⟩),.pointer (some ⟨w.heap.size,4,none⟩),.pointer (some ⟨w.heap.size,5,none⟩)];simpa using this);have HBZ:=Hd (show Below w.heap.size w wz by rw[hwz];exact(hA.alloc hA.size _).alloc (hA.alloc hA.size _).size _);have HJ0:=Hd (show LfJ w.heap.size w.heap.size (w.heap.size+1+1) (w.heap.size+1) d (.slice a1 l1 c1) (.slice a2 l2 c2) (.slice a3 l3 c3) (.slice a4 l4 c4) (.slice a5 l5 c5) #[.slice none 0 0,.slice none 0 0,.slice none 0 0,.int .u8 0,.slice none 0 0,.slice none 0 0] 0 wz from⟨_,_,_,_,_,by rw[←HS.out];exact B0.out,B2.out,B1.out,by simp,by simp,by simp,by simp,by simp⟩);rw[←hwz];clear hwz hA B0 B1 B2
 go_loopg [12] 5 (fun q iv wr=>∃i:Nat,i+q=5∧iv=.int .i64 (i:Nat)∧LfJ w.heap.size w.heap.size (w.heap.size+1+1) (w.heap.size+1) d (.slice a1 l1 c1) (.slice a2 l2 c2) (.slice a3 l3 c3) (.slice a4 l4 c4) (.slice a5 l5 c5) #[.slice none 0 0,.slice none 0 0,.slice none 0 0,.int .u8 0,.slice none 0 0,.slice none 0 0] i wr∧Below w.heap.size w wr)
 case atStart=>exact⟨0,rfl,rfl,HJ0.out,HBZ.out⟩
 case round=>
  obtain⟨i,hi,rfl,hJ,hb⟩:=hrel;have HB:=Hd hb;obtain⟨x0,x1,x2,x3,x4,bg,bp,br,q0,q1,q2,q3,q4⟩:=hJ;have HG:=Hd bg;have HP:=Hd bp;have HR:=Hd br;have hgl:w.heap.size<wr.heap.size:=bg.lt;have hpl:w.heap.size+1+1<wr.heap.size:=bp.lt;have hrl:w.heap.size+1<wr.heap.size:=br.lt;rcases(show i=0∨i=1∨i=2∨i=3∨i=4∨i=5 by omega)with rfl|rfl|rfl|rfl|rfl|rfl
  ·have hgk:gk=5:=(by omega);have ez:((0:Nat):Int)=0:=rfl;rw[ez];clear ez;rw[if_neg (by omega)]at q0;subst q0;rw[if_neg (by omega)]at q1;subst q1;rw[if_neg (by omega)]at q2;subst q2;rw[if_neg (by omega)]at q3;subst q3;rw[if_neg (by omega)]at q4;subst q4;have kp:wr.cell? ⟨w.heap.size+1+1,0,none⟩=some (.pointer (some ⟨w.heap.size,0,none⟩)):=HP.out.cell 0;have kc:wr.cell? ⟨w.heap.size,0,none⟩=some (.slice a1 l1 c1):=HG.out.cell 0;clear hi hb bg bp br;go_wp2_with fail;refine(C1.out wr HB.out).mono ?_;rintro e w2 ⟨v2,rfl,hown,hb2⟩;have KG:=Hd (HG.out.below hb2 hgl);have KP:=Hd (HP.out.below hb2 hpl);have KR:=Hd (HR.out.below hb2 hrl);have HO:=Hd (hown.mono HB.out.size);have HB2:=Hd (HB.out.trans (hb2.mono HB.out.size));have kc2:w2.cell? ⟨w.heap.size,0,none⟩=some (.slice a1 l1 c1):=KG.out.cell 0;have kf2:w2.frozen? ⟨w.heap.size,0,none⟩=false:=KG.out.frozen 0;obtain⟨y1,y2,y3,rfl⟩:=Dg hown;clear hown hb2;go_wp2_with fail;subst hgk;go_roundg 4;case measure=>omega
   case rel=>
    refine⟨1,rfl,rfl,⟨_,_,_,_,_,KG.out.set 0 _,KP.out.far (show w.heap.size+1+1≠w.heap.size by omega) _,KR.out.far (show w.heap.size+1≠w.heap.size by omega) _,?_,?_,?_,?_,?_⟩,HB2.out.setCell (p:=⟨w.heap.size,0,none⟩) lR _⟩
    ·rw[if_pos (by omega)];exact HO.out.setOther (a:=⟨w.heap.size,0,none⟩) (HO.out.ne_blk KG.out (by decide)) _
    ·rw[if_neg (by omega)]
    ·rw[if_neg (by omega)]
    ·rw[if_neg (by omega)]
    ·rw[if_neg (by omega)]
  ·have hgk:gk=4:=(by omega);have ez:((1:Nat):Int)=1:=rfl;rw[ez];clear ez;rw[if_pos (by omega)]at q0;have HQ0:=Hd q0;rw[if_neg (by omega)]at q1;subst q1;rw[if_neg (by omega)]at q2;subst q2;rw[if_neg (by omega)]at q3;subst q3;rw[if_neg (by omega)]at q4;subst q4;have kp:wr.cell? ⟨w.heap.size+1+1,1,none⟩=some (.pointer (some ⟨w.heap.size,1,none⟩)):=HP.out.cell 1;have kc:wr.cell? ⟨w.heap.size,1,none⟩=some (.slice a2 l2 c2):=HG.out.cell 1;clear hi hb bg bp br q0;go_wp2_with fail;refine(C2.out wr HB.out).mono ?_;rintro e w2 ⟨v2,rfl,hown,hb2⟩;have KG:=Hd (HG.out.below hb2 hgl);have KP:=Hd (HP.out.below hb2 hpl);have KR:=Hd (HR.out.below hb2 hrl);have HO:=Hd (hown.mono HB.out.size);have HB2:=Hd (HB.out.trans (hb2.mono HB.out.size));have HK0:=Hd (HQ0.out.below hb2 lR);have kc2:w2.cell? ⟨w.heap.size,1,none⟩=some (.slice a2 l2 c2):=KG.out.cell 1;have kf2:w2.frozen? ⟨w.heap.size,1,none⟩=false:=KG.out.frozen 1;obtain⟨y1,y2,y3,rfl⟩:=Dg hown;clear hown hb2;go_wp2_with fail;subst hgk;go_roundg 3;case measure=>omega
   case rel=>
    refine⟨2,rfl,rfl,⟨x0,_,_,_,_,KG.out.set 1 _,KP.out.far (show w.heap.size+1+1≠w.heap.size by omega) _,KR.out.far (show w.heap.size+1≠w.heap.size by omega) _,?_,?_,?_,?_,?_⟩,HB2.out.setCell (p:=⟨w.heap.size,1,none⟩) lR _⟩
    ·rw[if_pos (by omega)];exact HK0.out.setOther (a:=⟨w.heap.size,1,none⟩) (HK0.out.ne_blk KG.out (by decide)) _
    ·rw[if_pos (by omega)];exact HO.out.setOther (a:=⟨w.heap.size,1,none⟩) (HO.out.ne_blk KG.out (by decide)) _
    ·rw[if_neg (by omega)]
    ·rw[if_neg (by omega)]
    ·rw[if_neg (by omega)]
  ·have hgk:gk=3:=(by omega);have ez:((2:Nat):Int)=2:=rfl;rw[ez];clear ez;rw[if_pos (by omega)]at q0;have HQ0:=Hd q0;rw[if_pos (by omega)]at q1;have HQ1:=Hd q1;rw[if_neg (by omega)]at q2;subst q2;rw[if_neg (by omega)]at q3;subst q3;rw[if_neg (by omega)]at q4;subst q4;have kp:wr.cell? ⟨w.heap.size+1+1,2,none⟩=some (.pointer (some ⟨w.heap.size,2,none⟩)):=HP.out.cell 2;have kc:wr.cell? ⟨w.heap.size,2,none⟩=some (.slice a3 l3 c3):=HG.out.cell 2;clear hi hb bg bp br q0 q1;go_wp2_with fail;refine(C3.out wr HB.out).mono ?_;rintro e w2 ⟨v2,rfl,hown,hb2⟩;have KG:=Hd (HG.out.below hb2 hgl);have KP:=Hd (HP.out.below hb2 hpl);have KR:=Hd (HR.out.below hb2 hrl);have HO:=Hd (hown.mono HB.out.size);have HB2:=Hd (HB.out.trans (hb2.mono HB.out.size));have HK0:=Hd (HQ0.out.below hb2 lR);have HK1:=Hd (HQ1.out.below hb2 lR);have kc2:w2.cell? ⟨w.heap.size,2,none⟩=some (.slice a3 l3 c3):=KG.out.cell 2;have kf2:w2.frozen? ⟨w.heap.size,2,none⟩=false:=KG.out.frozen 2;obtain⟨y1,y2,y3,rfl⟩:=Dg hown;clear hown hb2;go_wp2_with fail;subst hgk;go_roundg 2;case measure=>omega
   case rel=>
    refine⟨3,rfl,rfl,⟨x0,x1,_,_,_,KG.out.set 2 _,KP.out.far (show w.heap.size+1+1≠w.heap.size by omega) _,KR.out.far (show w.heap.size+1≠w.heap.size by omega) _,?_,?_,?_,?_,?_⟩,HB2.out.setCell (p:=⟨w.heap.size,2,none⟩) lR _⟩
    ·rw[if_pos (by omega)];exact HK0.out.setOther (a:=⟨w.heap.size,2,none⟩) (HK0.out.ne_blk KG.out (by decide)) _
    ·rw[if_pos (by omega)];exact HK1.out.setOther (a:=⟨w.heap.size,2,none⟩) (HK1.out.ne_blk KG.out (by decide)) _
    ·rw[if_pos (by omega)];exact HO.out.setOther (a:=⟨w.heap.size,2,none⟩) (HO.out.ne_blk KG.out (by decide)) _
    ·rw[if_neg (by omega)]
    ·rw[if_neg (by omega)]
  ·have hgk:gk=2:=(by omega);have ez:((3:Nat):Int)=3:=rfl;rw[ez];clear ez;rw[if_pos (by omega)]at q0;have HQ0:=Hd q0;rw[if_pos (by omega)]at q1;have HQ1:=Hd q1;rw[if_pos (by omega)]at q2;have HQ2:=Hd q2;rw[if_neg (by omega)]at q3;subst q3;rw[if_neg (by omega)]at q4;subst q4;have kp:wr.cell? ⟨w.heap.size+1+1,3,none⟩=some (.pointer (some ⟨w.heap.size,4,none⟩)):=HP.out.cell 3;have kc:wr.cell? ⟨w.heap.size,4,none⟩=some (.slice a4 l4 c4):=HG.out.cell 4;clear hi hb bg bp br q0 q1 q2;go_wp2_with fail;refine(C4.out wr HB.out).mono ?_;rintro e w2 ⟨v2,rfl,hown,hb2⟩;have KG:=Hd (HG.out.below hb2 hgl);have KP:=Hd (HP.out.below hb2 hpl);have KR:=Hd (HR.out.below hb2 hrl);have HO:=Hd (hown.mono HB.out.size);have HB2:=Hd (HB.out.trans (hb2.mono HB.out.size));have HK0:=Hd (HQ0.out.below hb2 lR);have HK1:=Hd (HQ1.out.below hb2 lR);have HK2:=Hd (HQ2.out.below hb2 lR);have kc2:w2.cell? ⟨w.heap.size,4,none⟩=some (.slice a4 l4 c4):=KG.out.cell 4;have kf2:w2.frozen? ⟨w.heap.size,4,none⟩=false:=KG.out.frozen 4;obtain⟨y1,y2,y3,rfl⟩:=Dg hown;clear hown hb2;go_wp2_with fail;subst hgk;go_roundg 1;case measure=>omega
   case rel=>
    refine⟨4,rfl,rfl,⟨x0,x1,x2,_,_,KG.out.set 4 _,KP.out.far (show w.heap.size+1+1≠w.heap.size by omega) _,KR.out.far (show w.heap.size+1≠w.heap.size by omega) _,?_,?_,?_,?_,?_⟩,HB2.out.setCell (p:=⟨w.heap.size,4,none⟩) lR _⟩
    ·rw[if_pos (by omega)];exact HK0.out.setOther (a:=⟨w.heap.size,4,none⟩) (HK0.out.ne_blk KG.out (by decide)) _
    ·rw[if_pos (by omega)];exact HK1.out.setOther (a:=⟨w.heap.size,4,none⟩) (HK1.out.ne_blk KG.out (by decide)) _
    ·rw[if_pos (by omega)];exact HK2.out.setOther (a:=⟨w.heap.size,4,none⟩) (HK2.out.ne_blk KG.out (by decide)) _
    ·rw[if_pos (by omega)];exact HO.out.setOther (a:=⟨w.heap.size,4,none⟩) (HO.out.ne_blk KG.out (by decide)) _
    ·rw[if_neg (by omega)]
  ·have hgk:gk=1:=(by omega);have ez:((4:Nat):Int)=4:=rfl;rw[ez];clear ez;rw[if_pos (by omega)]at q0;have HQ0:=Hd q0;rw[if_pos (by omega)]at q1;have HQ1:=Hd q1;rw[if_pos (by omega)]at q2;have HQ2:=Hd q2;rw[if_pos (by omega)]at q3;have HQ3:=Hd q3;rw[if_neg (by omega)]at q4;subst q4;have kp:wr.cell? ⟨w.heap.size+1+1,4,none⟩=some (.pointer (some ⟨w.heap.size,5,none⟩)):=HP.out.cell 4;have kc:wr.cell? ⟨w.heap.size,5,none⟩=some (.slice a5 l5 c5):=HG.out.cell 5;clear hi hb bg bp br q0 q1 q2 q3;go_wp2_with fail;refine(C5.out wr HB.out).mono ?_;rintro e w2 ⟨v2,rfl,hown,hb2⟩;have KG:=Hd (HG.out.below hb2 hgl);have KP:=Hd (HP.out.below hb2 hpl);have KR:=Hd (HR.out.below hb2 hrl);have HO:=Hd (hown.mono HB.out.size);have HB2:=Hd (HB.out.trans (hb2.mono HB.out.size));have HK0:=Hd (HQ0.out.below hb2 lR);have HK1:=Hd (HQ1.out.below hb2 lR);have HK2:=Hd (HQ2.out.below hb2 lR);have HK3:=Hd (HQ3.out.below hb2 lR);have kc2:w2.cell? ⟨w.heap.size,5,none⟩=some (.slice a5 l5 c5):=KG.out.cell 5;have kf2:w2.frozen? ⟨w.heap.size,5,none⟩=false:=KG.out.frozen 5;obtain⟨y1,y2,y3,rfl⟩:=Dg hown;clear hown hb2;go_wp2_with fail;subst hgk;go_roundg 0;case measure=>omega
   case rel=>
    refine⟨5,rfl,rfl,⟨x0,x1,x2,x3,_,KG.out.set 5 _,KP.out.far (show w.heap.size+1+1≠w.heap.size by omega) _,KR.out.far (show w.heap.size+1≠w.heap.size by omega) _,?_,?_,?_,?_,?_⟩,HB2.out.setCell (p:=⟨w.heap.size,5,none⟩) lR _⟩
    ·rw[if_pos (by omega)];exact HK0.out.setOther (a:=⟨w.heap.size,5,none⟩) (HK0.out.ne_blk KG.out (by decide)) _
    ·rw[if_pos (by omega)];exact HK1.out.setOther (a:=⟨w.heap.size,5,none⟩) (HK1.out.ne_blk KG.out (by decide)) _
    ·rw[if_pos (by omega)];exact HK2.out.setOther (a:=⟨w.heap.size,5,none⟩) (HK2.out.ne_blk KG.out (by decide)) _
    ·rw[if_pos (by omega)];exact HK3.out.setOther (a:=⟨w.heap.size,5,none⟩) (HK3.out.ne_blk KG.out (by decide)) _
    ·rw[if_pos (by omega)];exact HO.out.setOther (a:=⟨w.heap.size,5,none⟩) (HO.out.ne_blk KG.out (by decide)) _
  ·rw[if_pos (by omega)]at q0 q1 q2 q3 q4;have ez:((5:Nat):Int)=5:=rfl;rw[ez];have HQ:=Hd (And.intro q0 (And.intro q1 (And.intro q2 (And.intro q3 q4))));have hone:(#[x0,x1,x2,.int .u8 (d.source:Nat),x3,x4]:Array Value).toList.all (·.oneCell')=true:=by
    simp only[List.all_cons,List.all_nil,Bool.and_true,q0.oneCell,q1.oneCell,q2.oneCell,q3.oneCell,q4.oneCell,Bool.true_and];rfl
   have HONE:=Hd hone;obtain⟨XS,hXS⟩:=eX ((#[x0,x1,x2,.int .u8 (d.source:Nat),x3,x4]:Array Value));rw[←hXS]at HONE HG;have HIN:=Hd (show(Tryz.prog.info? 49).map (·.size)=some XS.size by rw[hXS];kernel_rfl);have HZS:=Hd (show(#[.slice none 0 0,.slice none 0 0,.slice none 0 0,.int .u8 0,.slice none 0 0,.slice none 0 0]:Array Value).size=XS.size by rw[hXS];rfl);have HXE:=Hd hXS;clear hi hb bg bp br q0 q1 q2 q3 q4 ez hone hXS;go_wp2_with (first|(refine wpList_load_row rfl 49 (.tmp 1) rfl w.heap.size rfl 49 XS (0,0) _ HG.out Tryz.underlying49 rfl HIN.out ?_)|(refine Ab rfl 49 (.tmp 2) (.tmp 23) rfl (w.heap.size+1) XS rfl rfl 49 #[.slice none 0 0,.slice none 0 0,.slice none 0 0,.int .u8 0,.slice none 0 0,.slice none 0 0] HR.out HIN.out HZS.out HONE.out ?_));intro w3 m0 mb mo msz;have M0:=Hd m0;have HB3:=Hd (HB.out.trans ((mb (w.heap.size+1) lR).mono (by omega)));have M3:=Hd (show∀v L,Own wr w.heap.size 5 v L→Own w3 w.heap.size 5 v L from fun v L hv=>by
    refine⟨hv.1,?_⟩;rcases hv.2 with h|⟨g',cp,cur,e,hg,hh,rest⟩
    ·exact .inl h
    ·refine .inr ⟨g',cp,cur,e,hg,?_,rest⟩;rw[mo g' (fun e2=>hv.ne_blk HR.out (by decide) (by rw[e,←e2];rfl))];exact hh)
   clear m0 mb mo msz;go_wp2_with fail;exact bodyPost_ret (v:=.agg XS) (Gp rfl _ _ (w.heap.size+1) 49 XS _ rfl M0.out Tryz.underlying49 rfl HIN.out) rfl ⟨XS,rfl,⟨x0,x1,x2,x3,x4,HXE.out,M3.out _ _ HQ.out.1,M3.out _ _ HQ.out.2.1,M3.out _ _ HQ.out.2.2.1,M3.out _ _ HQ.out.2.2.2.1,M3.out _ _ HQ.out.2.2.2.2⟩,HB3.out⟩
def Zir (b:Nat)(M:List Nat):Option Nat×List Nat×Nat:=
 if b/64=3 then(none,M,3)
 else if M.length<2^(b/64)-1 then(none,M,4)
 else if lenS (Vk (b%64::M.take (2^(b/64)-1)):Nat)=2^(b/64)then(some (Vk (b%64::M.take (2^(b/64)-1))),M.drop (2^(b/64)-1),0)
 else(none,M.drop (2^(b/64)-1),3)
def Lz (L:List Nat)(er:Nat):Option Nat×List Nat×Nat:=
 if er≠0 then(none,L,er)else match L with
  |[]=>(none,[],4)
  |b::M=>Zir b M
def Zgm (L:List Nat)(er:Nat)(n:Int):List Nat×List Nat×Nat:=
 if er≠0 then([],L,er)else if n<0 then([],L,1)else if(L.length:Int)<n then([],L,4)else(L.take n.toNat,L.drop n.toNat,0)
def Zi8 (L:List Nat)(er:Nat):List Nat×List Nat×Nat:=
 match Lz L er with
 |(none,M,e)=>([],M,e)
 |(some n,M,e)=>Zgm M e (n:Int)
theorem Zav (c:Nat)(L:List Nat):Vk (c::L)=c*256^L.length+Vk L:=by
 have key:∀(L:List Nat) (a:Nat),L.foldl (fun a c=>a*256+c) a=a*256^L.length+L.foldl (fun a c=>a*256+c) 0:=by
  intro L
  induction L with
  |nil=>intro a;simp
  |cons x L ih=>
   intro a;simp only[List.foldl_cons,List.length_cons];have e:(a*256+x)*256^L.length=a*(256^L.length*256)+x*256^L.length:=(by rw[Nat.add_mul,Nat.mul_assoc,Nat.mul_comm 256]);rw[ih (a*256+x),ih (0*256+x),Nat.pow_succ,e,Nat.zero_mul,Nat.zero_add];omega
 show(c::L).foldl _ 0=_;rw[List.foldl_cons,key];simp[Vk]
theorem Vu:∀s n,Vk (beN s n)=n%256^s:=by
 intro s
 induction s with
 |zero=>intro n;simp[beN,Vk,Nat.mod_one]
 |succ s ih=>
  intro n;rw[beN,Zav,beN_len,ih,Nat.mod_pow_succ,Nat.mul_comm];omega
theorem Ty {n:Nat}(hn:n<1073741824)(R:List Nat):Lz (lenB n++R) 0=(some n,R,0):=by
 by_cases h1:n<64
 ·have e:lenB n++R=n::R:=(by rw[lenB,if_pos h1];rfl);rw[e,Lz,if_neg (by simp)];have h0:n/64=0:=(by omega);rw[Zir,h0,if_neg (by omega)];have e2:Vk (n%64::R.take (2^0-1))=n:=(by simp[Vk];omega);rw[e2,if_neg (by simp),if_pos (by rw[lenS1 h1])];simp
 ·by_cases h2:n<16384
  ·have e:lenB n++R=(64+n/256)::(n%256)::R:=(by rw[lenB,if_neg h1,if_pos h2];rfl);rw[e,Lz,if_neg (by simp)];have h0:(64+n/256)/64=1:=(by omega);rw[Zir,h0,if_neg (by omega)];have e2:Vk ((64+n/256)%64::(n%256::R).take (2^1-1))=n:=(by simp[Vk];omega);rw[e2,if_neg (by simp),if_pos (by rw[lenS2 (by omega) h2])];simp
  ·have e:lenB n++R=(128+n/16777216)::(n/65536%256)::(n/256%256)::(n%256)::R:=(by rw[lenB,if_neg h1,if_neg h2];rfl);rw[e,Lz,if_neg (by simp)];have h0:(128+n/16777216)/64=2:=(by omega);rw[Zir,h0,if_neg (by omega)];have e2:Vk ((128+n/16777216)%64::(n/65536%256::n/256%256::n%256::R).take (2^2-1))=n:=(by simp[Vk];omega);rw[e2,if_neg (by simp),if_pos (by rw[lenS4 (by omega) hn])];simp
theorem Zaw (v R:List Nat):Zgm (v++R) 0 (v.length:Int)=(v,R,0):=by
 rw[Zgm,if_neg (by simp),if_neg (by omega),if_neg (by rw[List.length_append];omega),Int.toNat_natCast];simp
theorem Vv {v:List Nat}(hv:v.length<1073741824)(R:List Nat):Zi8 (Ar v++R) 0=(v,R,0):=by
 rw[Zi8,Ar,List.append_assoc,Ty hv];simp only;exact Zaw v R
end Go.Proofs.YtngealmhgkoaiaaGreat
