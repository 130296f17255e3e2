/- Walks: slices.Clone of numbers, node.copyLeaf. -/
import Derived.Test.YtfofaiommeckbaaGreatZSliceSoundB
import Derived.Test.YtfofaiommeckbaaGreatZSliceSound06
import Derived.Test.YtfofaiommeckbaaGreatZSliceSound12
set_option linter.unusedVariables false
set_option maxRecDepth 100000
set_option maxHeartbeats 40000000
namespace Go.Proofs.YtfofaiommeckbaaGreat
open Go.RowKit WireM
theorem Zg7 (L:List Int):∀u∈ivs .i64 L,u.oneCell'=true:=by
 intro u hu;simp only[ivs,List.mem_map]at hu;obtain⟨n,_,rfl⟩:=hu
 rfl
theorem Zax (v:Value)(L:List Int)(w:World)(h:Rd w v (ivs .i64 L))(n:L.length<1099511627776):
  Calls Tryz.prog 130 #[v] w fun e w'=>∃v',e=.returned v'∧Own w' w.heap.size 3 v' (ivs .i64 L)∧Below w.heap.size w w':=by
 have f:(ivs .i64 L).length=L.length:=Ha .i64 L;have d:=Zg7 L;rcases h.nilOr with rfl|⟨a,cap,rfl⟩
 ·have g:ivs .i64 L=[]:=by
   obtain⟨a,cap,e,_⟩:=h;simp only[Value.slice.injEq]at e;exact List.eq_nil_of_length_eq_zero e.2.1.symm
  rw[g];clear h g f d;have q:∀w,(binOp .eql 48 (.slice none 0 0) (.slice none 0 0)).run Tryz.prog w=.ok (.bool true) w:=fun w=>Lib.run_eql_slice_nil w _ 3 none 0 0 0 0 Tryz.underlying48;go_enter Tryz.func130,Tryz.ntmps130;go_wp2_with fail;go_ret;exact⟨_,rfl,Own.nil _ _ _,bR⟩
 ·obtain⟨xs,c⟩:=eX (ivs .i64 L);rw[←c]at h d f⊢;have hx:xs.length<1099511627776:=(by omega);have k:=Hd h;have l:=Hd d;clear h d f c n;have q:∀w,(binOp .eql 48 (.slice (some a) xs.length cap) (.slice none 0 0)).run Tryz.prog w=.ok (.bool false) w:=fun w=>Lib.run_eql_slice_nil w _ 3 (some a) _ _ 0 0 Tryz.underlying48;go_enter Tryz.func130,Tryz.ntmps130;go_wp2_with (at_builtin;refine At rfl (.tmp 5) (.tmp 6) 48 rfl w.heap.size 3 _ 8 Qu _ [] rfl (Own.lit0 rfl lR) _ xs rfl (k.out.alloc _) l.out ?c2 ?c3 ?_);case c2=>simpa using hx
  case c3=>simp
  rintro v' o b-i;have m:=Hd b;have j:=Hd i;clear b i;go_wp2_with fail;go_ret;exact⟨_,rfl,m.out,(bR.alloc lR _).trans j.out⟩
theorem Own.ne_blk {w:World} {B g:Nat} {e t:TypeId} {v:Value} {xs:List Value} {cs:Array Value}(h:Own w B e v xs)(a:Blk w g t cs)(b:e≠t):v.ownBlock≠some g:=by
 intro c;rcases h.2 with⟨rfl,_⟩|⟨i,j,d,rfl,f,hh,_⟩
 ·simp[Value.ownBlock]at c
 ·simp[Value.ownBlock]at c;subst c;rw[Blk]at a;rw[hh]at a;simp at a;exact b a.2
def LeafO (w:World)(B:Nat)(d:LeafD)(c:Array Value):Prop:=
 ∃c0 c1 c2 c3 c4,c=#[c0,c1,c2,.int .u8 (d.source:Nat),c3,c4]∧Own w B 5 c0 (bvs d.box)∧Own w B 5 c1 (bvs d.sign)∧Own w B 5 c2 (bvs d.ident)∧Own w B 5 c3 (bvs d.par)∧Own w B 5 c4 (bvs d.sig)
def LfJ (B g p r:Nat)(d:LeafD)(o0 o1 o2 o3 o4:Value)(Z:Array Value)(i:Nat)(w:World):Prop:=
 ∃c0 c1 c2 c3 c4:Value,Blk w g 44 #[c0,c1,c2,.int .u8 (d.source:Nat),c3,c4]∧Blk w p 217 #[.pointer (some ⟨g,0,none⟩),.pointer (some ⟨g,1,none⟩),.pointer (some ⟨g,2,none⟩),.pointer (some ⟨g,4,none⟩),.pointer (some ⟨g,5,none⟩)]∧Blk w r 44 Z∧
  (if 0<i then Own w B 5 c0 (bvs d.box)else c0=o0)∧(if 1<i then Own w B 5 c1 (bvs d.sign)else c1=o1)∧(if 2<i then Own w B 5 c2 (bvs d.ident)else c2=o2)∧(if 3<i then Own w B 5 c3 (bvs d.par)else c3=o3)∧(if 4<i then Own w B 5 c4 (bvs d.sig)else c4=o4)
theorem Dk {w:World} {B:Nat} {e:TypeId} {v:Value} {xs:List Value}(h:Own w B e v xs):∃a n c,v=.slice a n c:=by
 obtain⟨a,c,e,_⟩:=h.rd;exact⟨_,_,_,e⟩
theorem Ta (d:LeafD)(c:Array Value)(w:World)(h:Zaq w d c)(aO:d.box.length<1000000∧d.sign.length<1000000∧d.ident.length<1000000∧d.par.length<1000000∧d.sig.length<1000000):
  Calls Tryz.prog 129 #[.agg c] w fun e w'=>∃c',e=.returned (.agg c')∧LeafO w' w.heap.size d c'∧Below w.heap.size w w':=by
 obtain⟨N,c1,X,c2,T,c3,P,c4,V,c5,rfl,h1,h2,h3,h4,h5⟩:=h;have C1:=Hd (fun(W:World) (hw:Below w.heap.size w W)=>Cq _ d.box W (h1.below hw lR) (by omega));have C2:=Hd (fun(W:World) (hw:Below w.heap.size w W)=>Cq _ d.sign W (h2.below hw lR) (by omega));have C3:=Hd (fun(W:World) (hw:Below w.heap.size w W)=>Cq _ d.ident W (h3.below hw lR) (by omega));have C4:=Hd (fun(W:World) (hw:Below w.heap.size w W)=>Cq _ d.par W (h4.below hw lR) (by omega));have C5:=Hd (fun(W:World) (hw:Below w.heap.size w W)=>Cq _ d.sig W (h5.below hw lR) (by omega));obtain⟨Q,aF⟩:=eX d.box.length;obtain⟨R,aJ⟩:=eX d.sign.length;obtain⟨U,aH⟩:=eX d.ident.length;obtain⟨O,aE⟩:=eX d.par.length;obtain⟨S,aG⟩:=eX d.sig.length;obtain⟨s,F⟩:=eX d.source;rw[←aF,←aJ,←aH,←aE,←aG,←F];rw[←aF]at C1;rw[←aJ]at C2;rw[←aH]at C3;rw[←aE]at C4;rw[←aG]at C5;have HS:=Hd F;clear h1 h2 h3 h4 h5 aF aJ aH aE aG F aO;go_enter Tryz.func129,Tryz.ntmps129;go_wp2_with fail;obtain⟨wz,C⟩:=eX (((w.alloc (.cells #[.slice N Q c1,.slice X R c2,.slice T U c3,.int .u8 (s:Nat),.slice P O c4,.slice V S c5] 44)).alloc (.cells #[.slice none 0 0,.slice none 0 0,.slice none 0 0,.int .u8 0,.slice none 0 0,.slice none 0 0] 44)).alloc (.cells #[.pointer (some ⟨w.heap.size,0,none⟩),.pointer (some ⟨w.heap.size,1,none⟩),.pointer (some ⟨w.heap.size,2,none⟩),.pointer (some ⟨w.heap.size,4,none⟩),.pointer (some ⟨w.heap.size,5,none⟩)] 217));have hA:=(Below.refl w.heap.size w).alloc lR (.cells #[.slice N Q c1,.slice X R c2,.slice T U c3,.int .u8 (s:Nat),.slice P O c4,.slice V S c5] 44);have B0:=Hd (show Blk wz w.heap.size 44 #[.slice N Q c1,.slice X R c2,.slice T U c3,.int .u8 (s:Nat),.slice P O c4,.slice V S c5] by rw[C];exact((Blk.new w _ _).alloc _).alloc _);have B1:=Hd (show Blk wz (w.heap.size+1) 44 #[.slice none 0 0,.slice none 0 0,.slice none 0 0,.int .u8 0,.slice none 0 0,.slice none 0 0] by
  have h1:=Blk.new (w.alloc (.cells #[.slice N Q c1,.slice X R c2,.slice T U c3,.int .u8 (s:Nat),.slice P O c4,.slice V S c5] 44)) 44 #[.slice none 0 0,.slice none 0 0,.slice none 0 0,.int .u8 0,.slice none 0 0,.slice none 0 0];have h2:Blk ((w.alloc (.cells #[.slice N Q c1,.slice X R c2,.slice T U c3,.int .u8 (s:Nat),.slice P O c4,.slice V S c5] 44)).alloc (.cells #[.slice none 0 0,.slice none 0 0,.slice none 0 0,.int .u8 0,.slice none 0 0,.slice none 0 0] 44)) (w.heap.size+1) 44 #[.slice none 0 0,.slice none 0 0,.slice none 0 0,.int .u8 0,.slice none 0 0,.slice none 0 0]:=(by simpa using h1);rw[C];exact h2.alloc _)
 have B2:=Hd (show Blk wz (w.heap.size+1+1) 217 #[.pointer (some ⟨w.heap.size,0,none⟩),.pointer (some ⟨w.heap.size,1,none⟩),.pointer (some ⟨w.heap.size,2,none⟩),.pointer (some ⟨w.heap.size,4,none⟩),.pointer (some ⟨w.heap.size,5,none⟩)] by rw[C];have:=Blk.new ((w.alloc (.cells #[.slice N Q c1,.slice X R c2,.slice T U c3,.int .u8 (s:Nat),.slice P O c4,.slice V S c5] 44)).alloc (.cells #[.slice none 0 0,.slice none 0 0,.slice none 0 0,.int .u8 0,.slice none 0 0,.slice none 0 0] 44)) 217 #[.pointer (some ⟨w.heap.size,0,none⟩),.pointer (some ⟨w.heap.size,1,none⟩),.pointer (some ⟨w.heap.size,2,none⟩),.pointer (some ⟨w.heap.size,4,none⟩),.pointer (some ⟨w.heap.size,5,none⟩)];simpa using this);have aR:=Hd (show Below w.heap.size w wz by rw[C];exact(hA.alloc hA.size _).alloc (hA.alloc hA.size _).size _);have aP:=Hd (show LfJ w.heap.size w.heap.size (w.heap.size+1+1) (w.heap.size+1) d (.slice N Q c1) (.slice X R c2) (.slice T U c3) (.slice P O c4) (.slice V S c5) #[.slice none 0 0,.slice none 0 0,.slice none 0 0,.int .u8 0,.slice none 0 0,.slice none 0 0] 0 wz from⟨_,_,_,_,_,by rw[←HS.out];exact B0.out,B2.out,B1.out,by simp,by simp,by simp,by simp,by simp⟩);rw[←C];clear C hA B0 B1 B2
 go_loopg [12] 5 (fun q iv wr=>∃i:Nat,i+q=5∧iv=.int .i64 (i:Nat)∧LfJ w.heap.size w.heap.size (w.heap.size+1+1) (w.heap.size+1) d (.slice N Q c1) (.slice X R c2) (.slice T U c3) (.slice P O c4) (.slice V S c5) #[.slice none 0 0,.slice none 0 0,.slice none 0 0,.int .u8 0,.slice none 0 0,.slice none 0 0] i wr∧Below w.heap.size w wr)
 case atStart=>exact⟨0,rfl,rfl,aP.out,aR.out⟩
 case round=>
  obtain⟨i,hi,rfl,hJ,hb⟩:=hrel;have k:=Hd hb;obtain⟨x0,x1,x2,x3,x4,bg,bp,br,n,o,u,y,z⟩:=hJ;have D:=Hd bg;have M:=Hd bp;have HR:=Hd br;have H:w.heap.size<wr.heap.size:=bg.lt;have K:w.heap.size+1+1<wr.heap.size:=bp.lt;have E:w.heap.size+1<wr.heap.size:=br.lt;rcases(show i=0∨i=1∨i=2∨i=3∨i=4∨i=5 by omega)with rfl|rfl|rfl|rfl|rfl|rfl
  ·have m:gk=5:=(by omega);have t:((0:Nat):Int)=0:=rfl;rw[t];clear t;rw[if_neg (by omega)]at n;subst n;rw[if_neg (by omega)]at o;subst o;rw[if_neg (by omega)]at u;subst u;rw[if_neg (by omega)]at y;subst y;rw[if_neg (by omega)]at z;subst z;have kp:wr.cell? ⟨w.heap.size+1+1,0,none⟩=some (.pointer (some ⟨w.heap.size,0,none⟩)):=M.out.cell 0;have kc:wr.cell? ⟨w.heap.size,0,none⟩=some (.slice N Q c1):=D.out.cell 0;clear hi hb bg bp br;go_wp2_with fail;refine(C1.out wr k.out).mono ?_;rintro e B ⟨v2,rfl,f,b⟩;have g:=Hd (D.out.below b H);have KP:=Hd (M.out.below b K);have Y:=Hd (HR.out.below b E);have A:=Hd (f.mono k.out.size);have l:=Hd (k.out.trans (b.mono k.out.size));have Z:B.cell? ⟨w.heap.size,0,none⟩=some (.slice N Q c1):=g.out.cell 0;have aA:B.frozen? ⟨w.heap.size,0,none⟩=false:=g.out.frozen 0;obtain⟨y1,y2,y3,rfl⟩:=Dk f;clear f b;go_wp2_with fail;subst m;go_roundg 4;case measure=>omega
   case rel=>
    refine⟨1,rfl,rfl,⟨_,_,_,_,_,g.out.set 0 _,KP.out.far (show w.heap.size+1+1≠w.heap.size by omega) _,Y.out.far (show w.heap.size+1≠w.heap.size by omega) _,?_,?_,?_,?_,?_⟩,l.out.setCell (p:=⟨w.heap.size,0,none⟩) lR _⟩
    ·rw[if_pos (by omega)];exact A.out.setOther (a:=⟨w.heap.size,0,none⟩) (A.out.ne_blk g.out (by decide)) _
    ·rw[if_neg (by omega)]
    ·rw[if_neg (by omega)]
    ·rw[if_neg (by omega)]
    ·rw[if_neg (by omega)]
  ·have m:gk=4:=(by omega);have t:((1:Nat):Int)=1:=rfl;rw[t];clear t;rw[if_pos (by omega)]at n;have x:=Hd n;rw[if_neg (by omega)]at o;subst o;rw[if_neg (by omega)]at u;subst u;rw[if_neg (by omega)]at y;subst y;rw[if_neg (by omega)]at z;subst z;have kp:wr.cell? ⟨w.heap.size+1+1,1,none⟩=some (.pointer (some ⟨w.heap.size,1,none⟩)):=M.out.cell 1;have kc:wr.cell? ⟨w.heap.size,1,none⟩=some (.slice X R c2):=D.out.cell 1;clear hi hb bg bp br n;go_wp2_with fail;refine(C2.out wr k.out).mono ?_;rintro e B ⟨v2,rfl,f,b⟩;have g:=Hd (D.out.below b H);have KP:=Hd (M.out.below b K);have Y:=Hd (HR.out.below b E);have A:=Hd (f.mono k.out.size);have l:=Hd (k.out.trans (b.mono k.out.size));have j:=Hd (x.out.below b lR);have Z:B.cell? ⟨w.heap.size,1,none⟩=some (.slice X R c2):=g.out.cell 1;have aA:B.frozen? ⟨w.heap.size,1,none⟩=false:=g.out.frozen 1;obtain⟨y1,y2,y3,rfl⟩:=Dk f;clear f b;go_wp2_with fail;subst m;go_roundg 3;case measure=>omega
   case rel=>
    refine⟨2,rfl,rfl,⟨x0,_,_,_,_,g.out.set 1 _,KP.out.far (show w.heap.size+1+1≠w.heap.size by omega) _,Y.out.far (show w.heap.size+1≠w.heap.size by omega) _,?_,?_,?_,?_,?_⟩,l.out.setCell (p:=⟨w.heap.size,1,none⟩) lR _⟩
    ·rw[if_pos (by omega)];exact j.out.setOther (a:=⟨w.heap.size,1,none⟩) (j.out.ne_blk g.out (by decide)) _
    ·rw[if_pos (by omega)];exact A.out.setOther (a:=⟨w.heap.size,1,none⟩) (A.out.ne_blk g.out (by decide)) _
    ·rw[if_neg (by omega)]
    ·rw[if_neg (by omega)]
    ·rw[if_neg (by omega)]
  ·have m:gk=3:=(by omega);have t:((2:Nat):Int)=2:=rfl;rw[t];clear t;rw[if_pos (by omega)]at n;have x:=Hd n;rw[if_pos (by omega)]at o;have G:=Hd o;rw[if_neg (by omega)]at u;subst u;rw[if_neg (by omega)]at y;subst y;rw[if_neg (by omega)]at z;subst z;have kp:wr.cell? ⟨w.heap.size+1+1,2,none⟩=some (.pointer (some ⟨w.heap.size,2,none⟩)):=M.out.cell 2;have kc:wr.cell? ⟨w.heap.size,2,none⟩=some (.slice T U c3):=D.out.cell 2;clear hi hb bg bp br n o;go_wp2_with fail;refine(C3.out wr k.out).mono ?_;rintro e B ⟨v2,rfl,f,b⟩;have g:=Hd (D.out.below b H);have KP:=Hd (M.out.below b K);have Y:=Hd (HR.out.below b E);have A:=Hd (f.mono k.out.size);have l:=Hd (k.out.trans (b.mono k.out.size));have j:=Hd (x.out.below b lR);have r:=Hd (G.out.below b lR);have Z:B.cell? ⟨w.heap.size,2,none⟩=some (.slice T U c3):=g.out.cell 2;have aA:B.frozen? ⟨w.heap.size,2,none⟩=false:=g.out.frozen 2;obtain⟨y1,y2,y3,rfl⟩:=Dk f;clear f b;go_wp2_with fail;subst m;go_roundg 2;case measure=>omega
   case rel=>
    refine⟨3,rfl,rfl,⟨x0,x1,_,_,_,g.out.set 2 _,KP.out.far (show w.heap.size+1+1≠w.heap.size by omega) _,Y.out.far (show w.heap.size+1≠w.heap.size by omega) _,?_,?_,?_,?_,?_⟩,l.out.setCell (p:=⟨w.heap.size,2,none⟩) lR _⟩
    ·rw[if_pos (by omega)];exact j.out.setOther (a:=⟨w.heap.size,2,none⟩) (j.out.ne_blk g.out (by decide)) _
    ·rw[if_pos (by omega)];exact r.out.setOther (a:=⟨w.heap.size,2,none⟩) (r.out.ne_blk g.out (by decide)) _
    ·rw[if_pos (by omega)];exact A.out.setOther (a:=⟨w.heap.size,2,none⟩) (A.out.ne_blk g.out (by decide)) _
    ·rw[if_neg (by omega)]
    ·rw[if_neg (by omega)]
  ·have m:gk=2:=(by omega);have t:((3:Nat):Int)=3:=rfl;rw[t];clear t;rw[if_pos (by omega)]at n;have x:=Hd n;rw[if_pos (by omega)]at o;have G:=Hd o;rw[if_pos (by omega)]at u;have aI:=Hd u;rw[if_neg (by omega)]at y;subst y;rw[if_neg (by omega)]at z;subst z;have kp:wr.cell? ⟨w.heap.size+1+1,3,none⟩=some (.pointer (some ⟨w.heap.size,4,none⟩)):=M.out.cell 3;have kc:wr.cell? ⟨w.heap.size,4,none⟩=some (.slice P O c4):=D.out.cell 4;clear hi hb bg bp br n o u;go_wp2_with fail;refine(C4.out wr k.out).mono ?_;rintro e B ⟨v2,rfl,f,b⟩;have g:=Hd (D.out.below b H);have KP:=Hd (M.out.below b K);have Y:=Hd (HR.out.below b E);have A:=Hd (f.mono k.out.size);have l:=Hd (k.out.trans (b.mono k.out.size));have j:=Hd (x.out.below b lR);have r:=Hd (G.out.below b lR);have I:=Hd (aI.out.below b lR);have Z:B.cell? ⟨w.heap.size,4,none⟩=some (.slice P O c4):=g.out.cell 4;have aA:B.frozen? ⟨w.heap.size,4,none⟩=false:=g.out.frozen 4;obtain⟨y1,y2,y3,rfl⟩:=Dk f;clear f b;go_wp2_with fail;subst m;go_roundg 1;case measure=>omega
   case rel=>
    refine⟨4,rfl,rfl,⟨x0,x1,x2,_,_,g.out.set 4 _,KP.out.far (show w.heap.size+1+1≠w.heap.size by omega) _,Y.out.far (show w.heap.size+1≠w.heap.size by omega) _,?_,?_,?_,?_,?_⟩,l.out.setCell (p:=⟨w.heap.size,4,none⟩) lR _⟩
    ·rw[if_pos (by omega)];exact j.out.setOther (a:=⟨w.heap.size,4,none⟩) (j.out.ne_blk g.out (by decide)) _
    ·rw[if_pos (by omega)];exact r.out.setOther (a:=⟨w.heap.size,4,none⟩) (r.out.ne_blk g.out (by decide)) _
    ·rw[if_pos (by omega)];exact I.out.setOther (a:=⟨w.heap.size,4,none⟩) (I.out.ne_blk g.out (by decide)) _
    ·rw[if_pos (by omega)];exact A.out.setOther (a:=⟨w.heap.size,4,none⟩) (A.out.ne_blk g.out (by decide)) _
    ·rw[if_neg (by omega)]
  ·have m:gk=1:=(by omega);have t:((4:Nat):Int)=4:=rfl;rw[t];clear t;rw[if_pos (by omega)]at n;have x:=Hd n;rw[if_pos (by omega)]at o;have G:=Hd o;rw[if_pos (by omega)]at u;have aI:=Hd u;rw[if_pos (by omega)]at y;have aS:=Hd y;rw[if_neg (by omega)]at z;subst z;have kp:wr.cell? ⟨w.heap.size+1+1,4,none⟩=some (.pointer (some ⟨w.heap.size,5,none⟩)):=M.out.cell 4;have kc:wr.cell? ⟨w.heap.size,5,none⟩=some (.slice V S c5):=D.out.cell 5;clear hi hb bg bp br n o u y;go_wp2_with fail;refine(C5.out wr k.out).mono ?_;rintro e B ⟨v2,rfl,f,b⟩;have g:=Hd (D.out.below b H);have KP:=Hd (M.out.below b K);have Y:=Hd (HR.out.below b E);have A:=Hd (f.mono k.out.size);have l:=Hd (k.out.trans (b.mono k.out.size));have j:=Hd (x.out.below b lR);have r:=Hd (G.out.below b lR);have I:=Hd (aI.out.below b lR);have aK:=Hd (aS.out.below b lR);have Z:B.cell? ⟨w.heap.size,5,none⟩=some (.slice V S c5):=g.out.cell 5;have aA:B.frozen? ⟨w.heap.size,5,none⟩=false:=g.out.frozen 5;obtain⟨y1,y2,y3,rfl⟩:=Dk f;clear f b;go_wp2_with fail;subst m;go_roundg 0;case measure=>omega
   case rel=>
    refine⟨5,rfl,rfl,⟨x0,x1,x2,x3,_,g.out.set 5 _,KP.out.far (show w.heap.size+1+1≠w.heap.size by omega) _,Y.out.far (show w.heap.size+1≠w.heap.size by omega) _,?_,?_,?_,?_,?_⟩,l.out.setCell (p:=⟨w.heap.size,5,none⟩) lR _⟩
    ·rw[if_pos (by omega)];exact j.out.setOther (a:=⟨w.heap.size,5,none⟩) (j.out.ne_blk g.out (by decide)) _
    ·rw[if_pos (by omega)];exact r.out.setOther (a:=⟨w.heap.size,5,none⟩) (r.out.ne_blk g.out (by decide)) _
    ·rw[if_pos (by omega)];exact I.out.setOther (a:=⟨w.heap.size,5,none⟩) (I.out.ne_blk g.out (by decide)) _
    ·rw[if_pos (by omega)];exact aK.out.setOther (a:=⟨w.heap.size,5,none⟩) (aK.out.ne_blk g.out (by decide)) _
    ·rw[if_pos (by omega)];exact A.out.setOther (a:=⟨w.heap.size,5,none⟩) (A.out.ne_blk g.out (by decide)) _
  ·rw[if_pos (by omega)]at n o u y z;have t:((5:Nat):Int)=5:=rfl;rw[t];have HQ:=Hd (And.intro n (And.intro o (And.intro u (And.intro y z))));have aB:(#[x0,x1,x2,.int .u8 (d.source:Nat),x3,x4]:Array Value).toList.all (·.oneCell')=true:=by
    simp only[List.all_cons,List.all_nil,Bool.and_true,n.oneCell,o.oneCell,u.oneCell,y.oneCell,z.oneCell,Bool.true_and];rfl
   have aC:=Hd aB;obtain⟨XS,J⟩:=eX ((#[x0,x1,x2,.int .u8 (d.source:Nat),x3,x4]:Array Value));rw[←J]at aC D;have aD:=Hd (show(Tryz.prog.info? 44).map (·.size)=some XS.size by rw[J];kernel_rfl);have aL:=Hd (show(#[.slice none 0 0,.slice none 0 0,.slice none 0 0,.int .u8 0,.slice none 0 0,.slice none 0 0]:Array Value).size=XS.size by rw[J];rfl);have aM:=Hd J;clear hi hb bg bp br n o u y z t aB J;go_wp2_with (first|(refine wpList_load_row rfl 44 (.tmp 1) rfl w.heap.size rfl 44 XS (0,0) _ D.out Tryz.underlying44 rfl aD.out ?_)|(refine Aa rfl 44 (.tmp 2) (.tmp 23) rfl (w.heap.size+1) XS rfl rfl 44 #[.slice none 0 0,.slice none 0 0,.slice none 0 0,.int .u8 0,.slice none 0 0,.slice none 0 0] HR.out aD.out aL.out aC.out ?_));intro w3 m0 mb mo aQ;have M0:=Hd m0;have aT:=Hd (k.out.trans ((mb (w.heap.size+1) lR).mono (by omega)));have M3:=Hd (show∀v L,Own wr w.heap.size 5 v L→Own w3 w.heap.size 5 v L from fun v L hv=>by
    refine⟨hv.1,?_⟩;rcases hv.2 with h|⟨g',cp,aN,e,hg,hh,rest⟩
    ·exact .inl h
    ·refine .inr ⟨g',cp,aN,e,hg,?_,rest⟩;rw[mo g' (fun e2=>hv.ne_blk HR.out (by decide) (by rw[e,←e2];rfl))];exact hh)
   clear m0 mb mo aQ;go_wp2_with fail;exact bodyPost_ret (v:=.agg XS) (Hq rfl _ _ (w.heap.size+1) 44 XS _ rfl M0.out Tryz.underlying44 rfl aD.out) rfl ⟨XS,rfl,⟨x0,x1,x2,x3,x4,aM.out,M3.out _ _ HQ.out.1,M3.out _ _ HQ.out.2.1,M3.out _ _ HQ.out.2.2.1,M3.out _ _ HQ.out.2.2.2.1,M3.out _ _ HQ.out.2.2.2.2⟩,aT.out⟩
end Go.Proofs.YtfofaiommeckbaaGreat
