import Derived.Test.YtfofaiommeckbaaGreatZSliceProves06
import Derived.Test.YtfofaiommeckbaaGreatZSliceProves12
open Go.Value renaming slice → q9, int → rA, pointer → rB
open Go.IntKind renaming u8 → rD
open Option renaming none → rF
open Go.Proofs.Tryz
set_option linter.unusedVariables false
set_option maxRecDepth 100000
set_option maxHeartbeats 40000000
namespace Go.Proofs.YtfofaiommeckbaaGreat
open Go.RowKit WireM
theorem Zhv (L:List Int):∀u∈ivs .i64 L,u.oneCell'=true:=by
 intro u hu;simp only[ivs,List.mem_map]at hu;obtain⟨n,_,rfl⟩:=hu
 rfl
theorem Zbj (v:Value)(L:List Int)(w:World)(h:Rd w v (ivs .i64 L))(l:L.length<1099511627776):
  Calls prog 130 #[v] w fun e w'=>∃d,e=.returned d∧Own w' w.heap.size 3 d (ivs .i64 L)∧Below w.heap.size w w':=by
 have f:(ivs .i64 L).length=L.length:=Ga .i64 L;have h1:=Zhv L;rcases h.nilOr with rfl|⟨a,cap,rfl⟩
 ·have h0:ivs .i64 L=[]:=by
   obtain⟨a,cap,e,_⟩:=h;simp only[Value.slice.injEq]at e;exact List.eq_nil_of_length_eq_zero e.2.1.symm
  rw[h0];clear h h0 f h1;have q:∀w,(binOp .eql 48 (q9 rF 0 0) (q9 rF 0 0)).run prog w=.ok (.bool true) w:=fun w=>Lib.run_eql_slice_nil w _ 3 none 0 0 0 0 underlying48;go_enter func130,ntmps130;go_wp2_with fail;go_ret;exact⟨_,rfl,Own.nil _ _ _,bR⟩
 ·obtain⟨xs,c⟩:=eX (ivs .i64 L);rw[←c]at h h1 f⊢;have hx:xs.length<1099511627776:=(by omega);have m:=Hd h;have j:=Hd h1;clear h h1 f c l;have q:∀w,(binOp .eql 48 (.slice (some a) xs.length cap) (q9 rF 0 0)).run prog w=.ok (.bool false) w:=fun w=>Lib.run_eql_slice_nil w _ 3 (some a) _ _ 0 0 underlying48;go_enter func130,ntmps130;go_wp2_with (at_builtin;refine Aj rfl (.tmp 5) (.tmp 6) 48 rfl w.heap.size 3 _ 8 Cn _ [] rfl (Own.lit0 rfl lR) _ xs rfl (m.out.alloc _) j.out ?c2 ?c3 ?_);case c2=>simpa using hx
  case c3=>simp
  rintro d n b-g;have i:=Hd b;have k:=Hd g;clear b g;go_wp2_with fail;go_ret;exact⟨_,rfl,i.out,(bR.alloc lR _).trans k.out⟩
theorem Own.ne_blk {w:World} {B g:Nat} {e t:TypeId} {v:Value} {xs:List Value} {cs:Array Value}(h:Own w B e v xs)(a:Blk w g t cs)(b:e≠t):v.ownBlock≠some g:=by
 intro c;rcases h.2 with⟨rfl,_⟩|⟨j,i,f,rfl,k,d,_⟩
 ·simp[Value.ownBlock]at c
 ·simp[Value.ownBlock]at c;subst c;rw[Blk]at a;rw[d]at a;simp at a;exact b a.2
def LeafO (w:World)(B:Nat)(d:LeafD)(c:Array Value):Prop:=
 ∃c0 c1 c2 c3 c4,c=#[c0,c1,c2,rA rD (d.source:Nat),c3,c4]∧Own w B 5 c0 (bvs d.box)∧Own w B 5 c1 (bvs d.sign)∧Own w B 5 c2 (bvs d.ident)∧Own w B 5 c3 (bvs d.par)∧Own w B 5 c4 (bvs d.sig)
def LfJ (B g p r:Nat)(d:LeafD)(o0 o1 o2 o3 o4:Value)(Z:Array Value)(i:Nat)(w:World):Prop:=
 ∃c0 c1 c2 c3 c4:Value,Blk w g 44 #[c0,c1,c2,rA rD (d.source:Nat),c3,c4]∧Blk w p 217 #[rB (some ⟨g,0,rF⟩),rB (some ⟨g,1,rF⟩),rB (some ⟨g,2,rF⟩),rB (some ⟨g,4,rF⟩),rB (some ⟨g,5,rF⟩)]∧Blk w r 44 Z∧
  (if 0<i then Own w B 5 c0 (bvs d.box)else c0=o0)∧(if 1<i then Own w B 5 c1 (bvs d.sign)else c1=o1)∧(if 2<i then Own w B 5 c2 (bvs d.ident)else c2=o2)∧(if 3<i then Own w B 5 c3 (bvs d.par)else c3=o3)∧(if 4<i then Own w B 5 c4 (bvs d.sig)else c4=o4)
theorem Co {w:World} {B:Nat} {e:TypeId} {v:Value} {xs:List Value}(h:Own w B e v xs):∃a n c,v=.slice a n c:=by
 obtain⟨a,c,e,_⟩:=h.rd;exact⟨_,_,_,e⟩
theorem Ud (d:LeafD)(c:Array Value)(w:World)(h:LeafC w d c)(aO:d.box.length<1000000∧d.sign.length<1000000∧d.ident.length<1000000∧d.par.length<1000000∧d.sig.length<1000000):
  Calls prog 129 #[.agg c] w fun e w'=>∃c',e=.returned (.agg c')∧LeafO w' w.heap.size d c'∧Below w.heap.size w w':=by
 obtain⟨V,c1,M,c2,R,c3,T,c4,X,c5,rfl,h1,h2,h3,h4,h5⟩:=h;have C1:=Hd (fun(W:World) (hw:Below w.heap.size w W)=>Cu _ d.box W (h1.below hw lR) (by omega));have C2:=Hd (fun(W:World) (hw:Below w.heap.size w W)=>Cu _ d.sign W (h2.below hw lR) (by omega));have C3:=Hd (fun(W:World) (hw:Below w.heap.size w W)=>Cu _ d.ident W (h3.below hw lR) (by omega));have C4:=Hd (fun(W:World) (hw:Below w.heap.size w W)=>Cu _ d.par W (h4.below hw lR) (by omega));have C5:=Hd (fun(W:World) (hw:Below w.heap.size w W)=>Cu _ d.sig W (h5.below hw lR) (by omega));obtain⟨N,aE⟩:=eX d.box.length;obtain⟨Q,aC⟩:=eX d.sign.length;obtain⟨S,aF⟩:=eX d.ident.length;obtain⟨O,aI⟩:=eX d.par.length;obtain⟨U,aD⟩:=eX d.sig.length;obtain⟨s,G⟩:=eX d.source;rw[←aE,←aC,←aF,←aI,←aD,←G];rw[←aE]at C1;rw[←aC]at C2;rw[←aF]at C3;rw[←aI]at C4;rw[←aD]at C5;have HS:=Hd G;clear h1 h2 h3 h4 h5 aE aC aF aI aD G aO;go_enter func129,ntmps129;go_wp2_with fail;obtain⟨wz,C⟩:=eX (((w.alloc (.cells #[q9 V N c1,q9 M Q c2,q9 R S c3,rA rD (s:Nat),q9 T O c4,q9 X U c5] 44)).alloc (.cells #[q9 rF 0 0,q9 rF 0 0,q9 rF 0 0,rA rD 0,q9 rF 0 0,q9 rF 0 0] 44)).alloc (.cells #[rB (some ⟨w.heap.size,0,rF⟩),rB (some ⟨w.heap.size,1,rF⟩),rB (some ⟨w.heap.size,2,rF⟩),rB (some ⟨w.heap.size,4,rF⟩),rB (some ⟨w.heap.size,5,rF⟩)] 217));have hA:=(Below.refl w.heap.size w).alloc lR (.cells #[q9 V N c1,q9 M Q c2,q9 R S c3,rA rD (s:Nat),q9 T O c4,q9 X U c5] 44);have B0:=Hd (show Blk wz w.heap.size 44 #[q9 V N c1,q9 M Q c2,q9 R S c3,rA rD (s:Nat),q9 T O c4,q9 X U c5] by rw[C];exact((Blk.new w _ _).alloc _).alloc _);have B1:=Hd (show Blk wz (w.heap.size+1) 44 #[q9 rF 0 0,q9 rF 0 0,q9 rF 0 0,rA rD 0,q9 rF 0 0,q9 rF 0 0] by
  have h1:=Blk.new (w.alloc (.cells #[q9 V N c1,q9 M Q c2,q9 R S c3,rA rD (s:Nat),q9 T O c4,q9 X U c5] 44)) 44 #[q9 rF 0 0,q9 rF 0 0,q9 rF 0 0,rA rD 0,q9 rF 0 0,q9 rF 0 0];have h2:Blk ((w.alloc (.cells #[q9 V N c1,q9 M Q c2,q9 R S c3,rA rD (s:Nat),q9 T O c4,q9 X U c5] 44)).alloc (.cells #[q9 rF 0 0,q9 rF 0 0,q9 rF 0 0,rA rD 0,q9 rF 0 0,q9 rF 0 0] 44)) (w.heap.size+1) 44 #[q9 rF 0 0,q9 rF 0 0,q9 rF 0 0,rA rD 0,q9 rF 0 0,q9 rF 0 0]:=(by simpa using h1);rw[C];exact h2.alloc _)
 have B2:=Hd (show Blk wz (w.heap.size+1+1) 217 #[rB (some ⟨w.heap.size,0,rF⟩),rB (some ⟨w.heap.size,1,rF⟩),rB (some ⟨w.heap.size,2,rF⟩),rB (some ⟨w.heap.size,4,rF⟩),rB (some ⟨w.heap.size,5,rF⟩)] by rw[C];have:=Blk.new ((w.alloc (.cells #[q9 V N c1,q9 M Q c2,q9 R S c3,rA rD (s:Nat),q9 T O c4,q9 X U c5] 44)).alloc (.cells #[q9 rF 0 0,q9 rF 0 0,q9 rF 0 0,rA rD 0,q9 rF 0 0,q9 rF 0 0] 44)) 217 #[rB (some ⟨w.heap.size,0,rF⟩),rB (some ⟨w.heap.size,1,rF⟩),rB (some ⟨w.heap.size,2,rF⟩),rB (some ⟨w.heap.size,4,rF⟩),rB (some ⟨w.heap.size,5,rF⟩)];simpa using this);have aL:=Hd (show Below w.heap.size w wz by rw[C];exact(hA.alloc hA.size _).alloc (hA.alloc hA.size _).size _);have aS:=Hd (show LfJ w.heap.size w.heap.size (w.heap.size+1+1) (w.heap.size+1) d (q9 V N c1) (q9 M Q c2) (q9 R S c3) (q9 T O c4) (q9 X U c5) #[q9 rF 0 0,q9 rF 0 0,q9 rF 0 0,rA rD 0,q9 rF 0 0,q9 rF 0 0] 0 wz from⟨_,_,_,_,_,by rw[←HS.out];exact B0.out,B2.out,B1.out,by simp,by simp,by simp,by simp,by simp⟩);rw[←C];clear C hA B0 B1 B2
 go_loopg [12] 5 (fun q iv wr=>∃i:Nat,i+q=5∧iv=rA .i64 (i:Nat)∧LfJ w.heap.size w.heap.size (w.heap.size+1+1) (w.heap.size+1) d (q9 V N c1) (q9 M Q c2) (q9 R S c3) (q9 T O c4) (q9 X U c5) #[q9 rF 0 0,q9 rF 0 0,q9 rF 0 0,rA rD 0,q9 rF 0 0,q9 rF 0 0] i wr∧Below w.heap.size w wr)
 case atStart=>exact⟨0,rfl,rfl,aS.out,aL.out⟩
 case round=>
  obtain⟨i,hi,rfl,hJ,hb⟩:=hrel;have k:=Hd hb;obtain⟨x0,x1,x2,x3,x4,bg,bp,br,n,o,u,x,z⟩:=hJ;have D:=Hd bg;have P:=Hd bp;have HR:=Hd br;have J:w.heap.size<wr.heap.size:=bg.lt;have E:w.heap.size+1+1<wr.heap.size:=bp.lt;have H:w.heap.size+1<wr.heap.size:=br.lt;rcases(show i=0∨i=1∨i=2∨i=3∨i=4∨i=5 by omega)with rfl|rfl|rfl|rfl|rfl|rfl
  ·have m:gk=5:=(by omega);have r:((0:Nat):Int)=0:=rfl;rw[r];clear r;rw[if_neg (by omega)]at n;subst n;rw[if_neg (by omega)]at o;subst o;rw[if_neg (by omega)]at u;subst u;rw[if_neg (by omega)]at x;subst x;rw[if_neg (by omega)]at z;subst z;have kp:wr.cell? ⟨w.heap.size+1+1,0,rF⟩=some (rB (some ⟨w.heap.size,0,rF⟩)):=P.out.cell 0;have kc:wr.cell? ⟨w.heap.size,0,rF⟩=some (q9 V N c1):=D.out.cell 0;clear hi hb bg bp br;go_wp2_with fail;refine(C1.out wr k.out).mono ?_;rintro e B ⟨v2,rfl,f,b⟩;have g:=Hd (D.out.below b J);have KP:=Hd (P.out.below b E);have KR:=Hd (HR.out.below b H);have A:=Hd (f.mono k.out.size);have l:=Hd (k.out.trans (b.mono k.out.size));have Y:B.cell? ⟨w.heap.size,0,rF⟩=some (q9 V N c1):=g.out.cell 0;have Z:B.frozen? ⟨w.heap.size,0,rF⟩=false:=g.out.frozen 0;obtain⟨y1,y2,y3,rfl⟩:=Co f;clear f b;go_wp2_with fail;subst m;go_roundg 4;case measure=>omega
   case rel=>
    refine⟨1,rfl,rfl,⟨_,_,_,_,_,g.out.set 0 _,KP.out.far (show w.heap.size+1+1≠w.heap.size by omega) _,KR.out.far (show w.heap.size+1≠w.heap.size by omega) _,?_,?_,?_,?_,?_⟩,l.out.setCell (p:=⟨w.heap.size,0,rF⟩) lR _⟩
    ·rw[if_pos (by omega)];exact A.out.setOther (a:=⟨w.heap.size,0,rF⟩) (A.out.ne_blk g.out (by decide)) _
    ·rw[if_neg (by omega)]
    ·rw[if_neg (by omega)]
    ·rw[if_neg (by omega)]
    ·rw[if_neg (by omega)]
  ·have m:gk=4:=(by omega);have r:((1:Nat):Int)=1:=rfl;rw[r];clear r;rw[if_pos (by omega)]at n;have y:=Hd n;rw[if_neg (by omega)]at o;subst o;rw[if_neg (by omega)]at u;subst u;rw[if_neg (by omega)]at x;subst x;rw[if_neg (by omega)]at z;subst z;have kp:wr.cell? ⟨w.heap.size+1+1,1,rF⟩=some (rB (some ⟨w.heap.size,1,rF⟩)):=P.out.cell 1;have kc:wr.cell? ⟨w.heap.size,1,rF⟩=some (q9 M Q c2):=D.out.cell 1;clear hi hb bg bp br n;go_wp2_with fail;refine(C2.out wr k.out).mono ?_;rintro e B ⟨v2,rfl,f,b⟩;have g:=Hd (D.out.below b J);have KP:=Hd (P.out.below b E);have KR:=Hd (HR.out.below b H);have A:=Hd (f.mono k.out.size);have l:=Hd (k.out.trans (b.mono k.out.size));have j:=Hd (y.out.below b lR);have Y:B.cell? ⟨w.heap.size,1,rF⟩=some (q9 M Q c2):=g.out.cell 1;have Z:B.frozen? ⟨w.heap.size,1,rF⟩=false:=g.out.frozen 1;obtain⟨y1,y2,y3,rfl⟩:=Co f;clear f b;go_wp2_with fail;subst m;go_roundg 3;case measure=>omega
   case rel=>
    refine⟨2,rfl,rfl,⟨x0,_,_,_,_,g.out.set 1 _,KP.out.far (show w.heap.size+1+1≠w.heap.size by omega) _,KR.out.far (show w.heap.size+1≠w.heap.size by omega) _,?_,?_,?_,?_,?_⟩,l.out.setCell (p:=⟨w.heap.size,1,rF⟩) lR _⟩
    ·rw[if_pos (by omega)];exact j.out.setOther (a:=⟨w.heap.size,1,rF⟩) (j.out.ne_blk g.out (by decide)) _
    ·rw[if_pos (by omega)];exact A.out.setOther (a:=⟨w.heap.size,1,rF⟩) (A.out.ne_blk g.out (by decide)) _
    ·rw[if_neg (by omega)]
    ·rw[if_neg (by omega)]
    ·rw[if_neg (by omega)]
  ·have m:gk=3:=(by omega);have r:((2:Nat):Int)=2:=rfl;rw[r];clear r;rw[if_pos (by omega)]at n;have y:=Hd n;rw[if_pos (by omega)]at o;have K:=Hd o;rw[if_neg (by omega)]at u;subst u;rw[if_neg (by omega)]at x;subst x;rw[if_neg (by omega)]at z;subst z;have kp:wr.cell? ⟨w.heap.size+1+1,2,rF⟩=some (rB (some ⟨w.heap.size,2,rF⟩)):=P.out.cell 2;have kc:wr.cell? ⟨w.heap.size,2,rF⟩=some (q9 R S c3):=D.out.cell 2;clear hi hb bg bp br n o;go_wp2_with fail;refine(C3.out wr k.out).mono ?_;rintro e B ⟨v2,rfl,f,b⟩;have g:=Hd (D.out.below b J);have KP:=Hd (P.out.below b E);have KR:=Hd (HR.out.below b H);have A:=Hd (f.mono k.out.size);have l:=Hd (k.out.trans (b.mono k.out.size));have j:=Hd (y.out.below b lR);have t:=Hd (K.out.below b lR);have Y:B.cell? ⟨w.heap.size,2,rF⟩=some (q9 R S c3):=g.out.cell 2;have Z:B.frozen? ⟨w.heap.size,2,rF⟩=false:=g.out.frozen 2;obtain⟨y1,y2,y3,rfl⟩:=Co f;clear f b;go_wp2_with fail;subst m;go_roundg 2;case measure=>omega
   case rel=>
    refine⟨3,rfl,rfl,⟨x0,x1,_,_,_,g.out.set 2 _,KP.out.far (show w.heap.size+1+1≠w.heap.size by omega) _,KR.out.far (show w.heap.size+1≠w.heap.size by omega) _,?_,?_,?_,?_,?_⟩,l.out.setCell (p:=⟨w.heap.size,2,rF⟩) lR _⟩
    ·rw[if_pos (by omega)];exact j.out.setOther (a:=⟨w.heap.size,2,rF⟩) (j.out.ne_blk g.out (by decide)) _
    ·rw[if_pos (by omega)];exact t.out.setOther (a:=⟨w.heap.size,2,rF⟩) (t.out.ne_blk g.out (by decide)) _
    ·rw[if_pos (by omega)];exact A.out.setOther (a:=⟨w.heap.size,2,rF⟩) (A.out.ne_blk g.out (by decide)) _
    ·rw[if_neg (by omega)]
    ·rw[if_neg (by omega)]
  ·have m:gk=2:=(by omega);have r:((3:Nat):Int)=3:=rfl;rw[r];clear r;rw[if_pos (by omega)]at n;have y:=Hd n;rw[if_pos (by omega)]at o;have K:=Hd o;rw[if_pos (by omega)]at u;have aH:=Hd u;rw[if_neg (by omega)]at x;subst x;rw[if_neg (by omega)]at z;subst z;have kp:wr.cell? ⟨w.heap.size+1+1,3,rF⟩=some (rB (some ⟨w.heap.size,4,rF⟩)):=P.out.cell 3;have kc:wr.cell? ⟨w.heap.size,4,rF⟩=some (q9 T O c4):=D.out.cell 4;clear hi hb bg bp br n o u;go_wp2_with fail;refine(C4.out wr k.out).mono ?_;rintro e B ⟨v2,rfl,f,b⟩;have g:=Hd (D.out.below b J);have KP:=Hd (P.out.below b E);have KR:=Hd (HR.out.below b H);have A:=Hd (f.mono k.out.size);have l:=Hd (k.out.trans (b.mono k.out.size));have j:=Hd (y.out.below b lR);have t:=Hd (K.out.below b lR);have I:=Hd (aH.out.below b lR);have Y:B.cell? ⟨w.heap.size,4,rF⟩=some (q9 T O c4):=g.out.cell 4;have Z:B.frozen? ⟨w.heap.size,4,rF⟩=false:=g.out.frozen 4;obtain⟨y1,y2,y3,rfl⟩:=Co f;clear f b;go_wp2_with fail;subst m;go_roundg 1;case measure=>omega
   case rel=>
    refine⟨4,rfl,rfl,⟨x0,x1,x2,_,_,g.out.set 4 _,KP.out.far (show w.heap.size+1+1≠w.heap.size by omega) _,KR.out.far (show w.heap.size+1≠w.heap.size by omega) _,?_,?_,?_,?_,?_⟩,l.out.setCell (p:=⟨w.heap.size,4,rF⟩) lR _⟩
    ·rw[if_pos (by omega)];exact j.out.setOther (a:=⟨w.heap.size,4,rF⟩) (j.out.ne_blk g.out (by decide)) _
    ·rw[if_pos (by omega)];exact t.out.setOther (a:=⟨w.heap.size,4,rF⟩) (t.out.ne_blk g.out (by decide)) _
    ·rw[if_pos (by omega)];exact I.out.setOther (a:=⟨w.heap.size,4,rF⟩) (I.out.ne_blk g.out (by decide)) _
    ·rw[if_pos (by omega)];exact A.out.setOther (a:=⟨w.heap.size,4,rF⟩) (A.out.ne_blk g.out (by decide)) _
    ·rw[if_neg (by omega)]
  ·have m:gk=1:=(by omega);have r:((4:Nat):Int)=4:=rfl;rw[r];clear r;rw[if_pos (by omega)]at n;have y:=Hd n;rw[if_pos (by omega)]at o;have K:=Hd o;rw[if_pos (by omega)]at u;have aH:=Hd u;rw[if_pos (by omega)]at x;have aN:=Hd x;rw[if_neg (by omega)]at z;subst z;have kp:wr.cell? ⟨w.heap.size+1+1,4,rF⟩=some (rB (some ⟨w.heap.size,5,rF⟩)):=P.out.cell 4;have kc:wr.cell? ⟨w.heap.size,5,rF⟩=some (q9 X U c5):=D.out.cell 5;clear hi hb bg bp br n o u x;go_wp2_with fail;refine(C5.out wr k.out).mono ?_;rintro e B ⟨v2,rfl,f,b⟩;have g:=Hd (D.out.below b J);have KP:=Hd (P.out.below b E);have KR:=Hd (HR.out.below b H);have A:=Hd (f.mono k.out.size);have l:=Hd (k.out.trans (b.mono k.out.size));have j:=Hd (y.out.below b lR);have t:=Hd (K.out.below b lR);have I:=Hd (aH.out.below b lR);have aJ:=Hd (aN.out.below b lR);have Y:B.cell? ⟨w.heap.size,5,rF⟩=some (q9 X U c5):=g.out.cell 5;have Z:B.frozen? ⟨w.heap.size,5,rF⟩=false:=g.out.frozen 5;obtain⟨y1,y2,y3,rfl⟩:=Co f;clear f b;go_wp2_with fail;subst m;go_roundg 0;case measure=>omega
   case rel=>
    refine⟨5,rfl,rfl,⟨x0,x1,x2,x3,_,g.out.set 5 _,KP.out.far (show w.heap.size+1+1≠w.heap.size by omega) _,KR.out.far (show w.heap.size+1≠w.heap.size by omega) _,?_,?_,?_,?_,?_⟩,l.out.setCell (p:=⟨w.heap.size,5,rF⟩) lR _⟩
    ·rw[if_pos (by omega)];exact j.out.setOther (a:=⟨w.heap.size,5,rF⟩) (j.out.ne_blk g.out (by decide)) _
    ·rw[if_pos (by omega)];exact t.out.setOther (a:=⟨w.heap.size,5,rF⟩) (t.out.ne_blk g.out (by decide)) _
    ·rw[if_pos (by omega)];exact I.out.setOther (a:=⟨w.heap.size,5,rF⟩) (I.out.ne_blk g.out (by decide)) _
    ·rw[if_pos (by omega)];exact aJ.out.setOther (a:=⟨w.heap.size,5,rF⟩) (aJ.out.ne_blk g.out (by decide)) _
    ·rw[if_pos (by omega)];exact A.out.setOther (a:=⟨w.heap.size,5,rF⟩) (A.out.ne_blk g.out (by decide)) _
  ·rw[if_pos (by omega)]at n o u x z;have r:((5:Nat):Int)=5:=rfl;rw[r];have HQ:=Hd (And.intro n (And.intro o (And.intro u (And.intro x z))));have aB:(#[x0,x1,x2,rA rD (d.source:Nat),x3,x4]:Array Value).toList.all (·.oneCell')=true:=by
    simp only[List.all_cons,List.all_nil,Bool.and_true,n.oneCell,o.oneCell,u.oneCell,x.oneCell,z.oneCell,Bool.true_and];rfl
   have aA:=Hd aB;obtain⟨XS,F⟩:=eX ((#[x0,x1,x2,rA rD (d.source:Nat),x3,x4]:Array Value));rw[←F]at aA D;have aG:=Hd (show(prog.info? 44).map (·.size)=some XS.size by rw[F];kernel_rfl);have aQ:=Hd (show(#[q9 rF 0 0,q9 rF 0 0,q9 rF 0 0,rA rD 0,q9 rF 0 0,q9 rF 0 0]:Array Value).size=XS.size by rw[F];rfl);have aK:=Hd F;clear hi hb bg bp br n o u x z r aB F;go_wp2_with (first|(refine wpList_load_row rfl 44 (.tmp 1) rfl w.heap.size rfl 44 XS (0,0) _ D.out underlying44 rfl aG.out ?_)|(refine Aa rfl 44 (.tmp 2) (.tmp 23) rfl (w.heap.size+1) XS rfl rfl 44 #[q9 rF 0 0,q9 rF 0 0,q9 rF 0 0,rA rD 0,q9 rF 0 0,q9 rF 0 0] HR.out aG.out aQ.out aA.out ?_));intro w3 m0 mb mo aP;have M0:=Hd m0;have aR:=Hd (k.out.trans ((mb (w.heap.size+1) lR).mono (by omega)));have M3:=Hd (show∀v L,Own wr w.heap.size 5 v L→Own w3 w.heap.size 5 v L from fun v L hv=>by
    refine⟨hv.1,?_⟩;rcases hv.2 with h|⟨g',cp,aM,e,hg,hh,rest⟩
    ·exact .inl h
    ·refine .inr ⟨g',cp,aM,e,hg,?_,rest⟩;rw[mo g' (fun e2=>hv.ne_blk HR.out (by decide) (by rw[e,←e2];rfl))];exact hh)
   clear m0 mb mo aP;go_wp2_with fail;exact bodyPost_ret (v:=.agg XS) (Fz rfl _ _ (w.heap.size+1) 44 XS _ rfl M0.out underlying44 rfl aG.out) rfl ⟨XS,rfl,⟨x0,x1,x2,x3,x4,aK.out,M3.out _ _ HQ.out.1,M3.out _ _ HQ.out.2.1,M3.out _ _ HQ.out.2.2.1,M3.out _ _ HQ.out.2.2.2.1,M3.out _ _ HQ.out.2.2.2.2⟩,aR.out⟩
end Go.Proofs.YtfofaiommeckbaaGreat
