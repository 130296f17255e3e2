/- Plain: what of few bytes is read is a small sparse tree in order; of such, a piece's right. -/
import Derived.Test.YtfofaiommeckbaaGreatZSliceReadsB
import Derived.Test.YtfofaiommeckbaaGreatZSliceReads49
import Derived.Test.YtfofaiommeckbaaGreatZSliceReads50
open Bool renaming and_eq_true → bS
open List renaming length_map → fJ, getElem_map → fU, getElem?_toArray → bK, getElem?_cons_zero → bL, getElem?_cons_succ → bM, map_map → gU, map_congr_left → fY, length_drop → dE, mem_of_mem_drop → gC
open Nat renaming log2 → aV, le_trans → dG, pow_le_pow_right → aW, two_pow_pos → eG, le_of_lt → dL, zero_add → cG, zero_le → aA
open Int renaming toNat_natCast → cO, toNat_of_nonneg → gV
set_option linter.unusedVariables false
set_option maxRecDepth 100000
set_option maxHeartbeats 40000000
namespace Go.Proofs.YtfofaiommeckbaaGreat
open Go.RowKit Go.Maps WalkM WireM
theorem Vz {d:NodeD}(h:Aq d=true)(hl:d.par.late.length≤1000):Cb d=true:=by
 unfold Aq at h;simp only at h;unfold Cb;rw[decide_eq_true_iff]
 split at h
 ·rw[bS]at h;have h1:=of_decide_eq_true h.1;have h2:=of_decide_eq_true h.2;omega
 ·split at h
  ·rw[bS]at h;have h1:=of_decide_eq_true h.1;have h2:=of_decide_eq_true h.2;omega
  ·split at h
   ·rw[bS]at h;have h1:=of_decide_eq_true h.1;have h2:=h.2;unfold rpB at h2;rw[bS]at h2;have h3:=of_decide_eq_true h2.2;omega
   ·cases h
theorem Md {α:Type} {l:List (Int×α)}(h:l.Pairwise fun p q=>p.1<q.1):(l.map (·.1)).Pairwise (· < ·):=List.pairwise_map.2 h
theorem Tw {k x n i:Nat} {L:List Nat}(hL:∀y∈L,y<256)(hl:L.length≤4000)(hx:2^k≤x+1)(hxm:x+2^k≤131071)(hn:n≤4294967296)(hi:i≤4294967296)(h:(rdP k x L).er=0):
  SparseOk ⟨(n:Int),(i:Int),(rdP k x L).op,(rdP k x L).sh⟩∧Fv ⟨(n:Int),(i:Int),(rdP k x L).op,(rdP k x L).sh⟩=true∧Cp ⟨(n:Int),(i:Int),(rdP k x L).op,(rdP k x L).sh⟩=true:=by
 have o:=Tt k x L hx h;generalize rdP k x L=r at o⊢;have hlen:=o.len;refine⟨⟨by unfold inI;simp only;omega,by unfold inI;simp only;omega,fun p hp=> ?_,fun p hp=> ?_⟩,?_,?_⟩
 ·have:=o.opIn p hp;exact⟨by unfold inI;omega,(o.node p hp).2.2 hL⟩
 ·have:=o.shIn p hp;exact⟨by unfold inI;omega,fun y hy=>hL y ((o.hash p hp).2.2 y hy)⟩
 ·unfold Fv;simp only[bS,decide_eq_true_eq];refine⟨⟨⟨by omega,by omega⟩,List.all_eq_true.2 fun p hp=>Vz (o.node p hp).1 (by have:=(o.node p hp).2.1;omega)⟩,List.all_eq_true.2 fun p hp=>decide_eq_true (by have:=(o.hash p hp).1;omega)⟩
 ·unfold Cp;rw[bS];constructor
  ·have:=Mc (l:=r.op.map (·.1)) (f:=spK r.op) (fun i hi=>by
    rw[fJ]at hi;unfold spK;rw[Ij hi,fU]) (Md o.opUp) (fun y hy=>by
    obtain⟨p,hp,rfl⟩:=List.mem_map.1 hy;have:=(o.opIn p hp).1;omega)
   rwa [fJ]at this
  ·have:=Mc (l:=r.sh.map (·.1)) (f:=stK r.sh) (fun i hi=>by
    rw[fJ]at hi;unfold stK;rw[Jq hi,fU]) (Md o.shUp) (fun y hy=>by
    obtain⟨p,hp,rfl⟩:=List.mem_map.1 hy;have:=(o.shIn p hp).1;omega)
   rwa [fJ]at this
theorem Zg1 (s:SparseD)(only:Bool)(ob sb:Nat)(W:World)(hok:SparseOk s)(hs:Fv s=true)(hb:Cp s=true)(h1:PieceN W ob s.op.length (Am s.op))(h2:PieceH W sb s.sh.length (By s.sh)):
  Calls Tryz.prog 123 #[.agg #[.int .i64 s.leaves,.int .i64 s.own,.map (some ob),.map (some sb)],.bool only] W fun e w'=>e=.returned (.bool (Az s only))∧Below W.heap.size W w':=by
 obtain⟨hl1,hl2⟩:=Fw hs;have hpb:=hb;unfold Cp at hpb;rw[bS]at hpb;have:=Pj s.leaves s.own ob sb s.op.length s.sh.length (Am s.op) (By s.sh) (s.op.map (·.1)) (s.sh.map (·.1)) only W h1 h2 (by omega) (by omega) (Lb hok hs) (Jt (g:=spK s.op) (fun i hi=>by unfold spK;rw[Ij hi]) hpb.1) (fun x=>Rc) (Jt (g:=stK s.sh) (fun i hi=>by unfold stK;rw[Jq hi]) hpb.2) (fun x=>Kq) (by simp;omega) (by simp;omega) hok.leaves hok.own;have e:=Tp s only;rw[hb,Bool.true_and]at e
 rwa [e]at this
theorem PcS.made {w:World} {ob sb g:Nat}(h1:MapF w ob 0 fun _=>none)(h2:MapF w sb 0 fun _=>none):PcS w ob sb g 0 0 (fun _=>none) fun _=>none:=⟨⟨_,h1,fun _=>rfl⟩,⟨_,h2,fun _=>rfl⟩⟩
theorem Rj {L:List Nat} {s:Int} {P:Nat→Bool}(h:(Ig L s P).2.1=0):P (Ig L s P).1=true∧(Ig L s P).2.2.2=0:=by
 unfold Ig at h⊢
 split at h
 ·rename_i h1;exact absurd h h1
 ·rename_i h1
  split at h
  ·rename_i h2;rw[if_neg h1,if_pos h2];exact⟨h2,by simpa using h1⟩
  ·cases h
theorem Id (L:List Nat)(s:Int)(P:Nat→Bool):Sub (Ig L s P).2.2.1 L:=by
 have h:=(Fx L 0 s).2.1;unfold Ig
 split
 ·exact h
 ·split<;>exact h
theorem Rk {L:List Nat} {s:Int} {P:Nat→Bool}(hL:∀n∈L,n<256)(hs:s=1∨s=4):(Ig L s P).1<4294967296:=by
 have h:=Zd5 hL hs;unfold Ig
 split
 ·exact(by decide:0<4294967296)
 ·split
  ·exact h
  ·exact(by decide:0<4294967296)
theorem Rl {n:Nat}(h:fits n=true):n=2^aV n∧n≤65536∧aV n≤16∧Ps (n:Int)=((n-1:Nat):Int)∧IsLev (n-1) (aV n):=by
 obtain⟨d,hd,rfl⟩:=(fits_iff n).1 h;have hnd:2^d≤65536:=dG (aW (by omega) hd) (by decide);have hp:=eG d;rw[Nat.log2_two_pow];refine⟨rfl,hnd,hd,by rw[Ps,if_pos (by rw[cO];exact h)];omega,?_⟩;unfold IsLev;rw[Nat.mod_eq_of_lt (by rw[Nat.pow_succ];omega)]
theorem Zg2 (l:List (Int×NodeD)):Lf (fun _=>none) l=Am l:=by funext y;unfold Lf;cases Am l y<;>rfl
theorem Zg3 (l:List (Int×List Nat)):Ok (fun _=>none) l=By l:=by funext y;unfold Ok;cases By l y<;>rfl
theorem Zef (a:Option Addr) (cp:Nat) (L L1 L2 L3:List Nat) (mk nn n2 n3 e1 e2 e3 f1 f2 f3 k x:Nat) (only:Bool) (rr:RdR) (RES:Nat×SparseD) (w:World) (h:Rd w (.slice a L.length cp) (bvs L)) (hl:L.length≤4000) (hom:((mk:Int)==2)=only)
  (C1:∀(B g:Nat) (W:World),RS W B L 0→Blk W g 3 #[.int .i64 (mk:Nat)]→g≠B→Calls Tryz.prog 118 #[.pointer (some ⟨B,0,none⟩),.int .i64 1,.func (.func 119) #[] #[.pointer (some ⟨g,0,none⟩)]] W (Zd3 B W (nn,e1,L1,f1)))
  (C2:e1=0→∀(B:Nat) (W:World),RS W B L1 f1→Calls Tryz.prog 118 #[.pointer (some ⟨B,0,none⟩),.int .i64 4,.func (.func 113) #[] #[]] W (Zd3 B W (n2,e2,L2,f2)))
  (C3:e1=0→e2=0→∀(B g:Nat) (W:World) (y1 y2 y3:Value),RS W B L2 f2→Blk W g 101 #[.int .i64 (n2:Nat),y1,y2,y3]→g≠B→Calls Tryz.prog 118 #[.pointer (some ⟨B,0,none⟩),.int .i64 4,.func (.func 120) #[] #[.pointer (some ⟨g,0,none⟩)]] W (Zd3 B W (n3,e3,L3,f3)))
  (C4:e1=0→e2=0→e3=0→∀(B ob sb g:Nat) (W:World),B<ob→B<sb→ob≠sb→ob<g→sb<g→g≤W.heap.size→RS W B L3 f3→PcS W ob sb g 0 0 (fun _=>none) (fun _=>none)→
   Calls Tryz.prog 121 #[.agg #[.int .i64 (n2:Nat),.int .i64 (n3:Nat),.map (some ob),.map (some sb)],.pointer (some ⟨B,0,none⟩),.int .i64 (x:Nat)] W (Zdy B ob sb g 0 0 (fun _=>none) (fun _=>none) rr W))
  (CR:e1=0→e2=0→∀W:World,Calls Tryz.prog 61 #[.int .i64 (n2:Nat)] W fun e w'=>e=.returned (.int .i64 (x:Nat))∧W=w')
  (C6:e1=0→e2=0→e3=0→rr.er=0→∀(ob sb:Nat) (W:World),PieceN W ob rr.op.length (Am rr.op)→PieceH W sb rr.sh.length (By rr.sh)→Calls Tryz.prog 123 #[.agg #[.int .i64 (n2:Nat),.int .i64 (n3:Nat),.map (some ob),.map (some sb)],.bool only] W fun e w'=>e=.returned (.bool (Az ⟨(n2:Int),(n3:Int),rr.op,rr.sh⟩ only))∧Below W.heap.size W w')
  (X1:e1≠0→RES=(e1,Ex)) (X2:e1=0→e2≠0→RES=(e2,Ex)) (X3:e1=0→e2=0→e3≠0→RES=(e3,Ex)) (X4:e1=0→e2=0→e3=0→rr.er≠0→RES=(rr.er,Ex))
  (X5:e1=0→e2=0→e3=0→rr.er=0→Ze8 rr.rest 0≠0→RES=(Ze8 rr.rest 0,Ex))
  (X6:e1=0→e2=0→e3=0→rr.er=0→Ze8 rr.rest 0=0→∀b,Az ⟨(n2:Int),(n3:Int),rr.op,rr.sh⟩ only=b→RES=if b=true then(0,⟨(n2:Int),(n3:Int),rr.op,rr.sh⟩)else(3,Ex)):
  Calls Tryz.prog 66 #[.slice a L.length cp,.int .i64 (mk:Nat)] w (Zkd RES w):=by
 have HNR:=Hd fun(W:World) (hw:Below w.heap.size w W)=>Ji _ L W (h.below hw lR);have HC1:=Hd C1;have HC2:=Hd C2;have HC3:=Hd C3;have HC4:=Hd C4;have HCR:=Hd CR;have HC6:=Hd C6;have HX1:=Hd X1;have HX2:=Hd X2;have HX3:=Hd X3;have HX4:=Hd X4;have HX5:=Hd X5;have HX6:=Hd X6;have HEN:=Hd fun(B:Nat) (W:World) (hW:RS W B rr.rest 0)=>Zh4 B rr.rest 0 W hW;have HOM:=Hd hom;obtain⟨g,hg⟩:=eX (w.heap.size+1);have HG:=Hd hg;obtain⟨w0,hw0⟩:=eX ((w.alloc (.cells #[.int .i64 (mk:Nat)] 3)).alloc (.cells #[.int .i64 0,.int .i64 0,.map none,.map none] 101));have hb0:Below w.heap.size w w0:=(by rw[hw0];exact((Below.refl w.heap.size w).alloc lR _).alloc (by simp) _);have hz0:w0.heap.size=w.heap.size+2:=(by rw[hw0];simp);have hm0:Blk w0 w.heap.size 3 #[.int .i64 (mk:Nat)]:=(by rw[hw0];exact(Blk.new w _ _).alloc _);have hg0:Blk w0 g 101 #[.int .i64 0,.int .i64 0,.map none,.map none]:=by
  rw[hw0,hg];have e:(w.alloc (.cells #[.int .i64 (mk:Nat)] 3)).heap.size=w.heap.size+1:=(by simp);rw[←e];exact Blk.new _ _ _
 have hlen:decide ((L.length:Int)>1048576)=false:=decide_eq_false (by omega);obtain⟨ln,hln⟩:=eX L.length;rw[←hln]at hlen HNR⊢;have HNR0:=Hd (HNR.out w0 hb0);have HW0:=Hd hw0;clear h hl C1 C2 C3 C4 CR C6 X1 X2 X3 X4 X5 X6 hom HNR hln;have MM1:∀w,(Instr.makeMap 98 none).run Tryz.prog w=.ok (.map (some w.heap.size)) (w.alloc (.map #[] 0)):=fun w=>rfl;have MM2:∀w,(Instr.makeMap 99 none).run Tryz.prog w=.ok (.map (some w.heap.size)) (w.alloc (.map #[] 0)):=fun w=>rfl;go_enter Tryz.func66,Tryz.ntmps66;go_wp2_with fail;rw[←HW0.out,←HG.out];refine HNR0.out.mono ?_;rintro e w1 ⟨rfl,hrs,hb⟩;obtain⟨B,hB⟩:=eX w0.heap.size;rw[←hB]at hrs hb⊢;have hb1:Below w.heap.size w w1:=hb0.trans (hb.mono (by omega));have hrl:=hrs.lt;obtain⟨ob,hob⟩:=eX w1.heap.size;obtain⟨sb,hsb⟩:=eX (ob+1);obtain⟨p,hp⟩:=eX (sb+1);obtain⟨w2,hw2⟩:=eX (((w1.alloc (.map #[] 0)).alloc (.map #[] 0)).alloc (.cells #[.int .i64 0,.int .i64 0,.map (some ob),.map (some sb)] 101));have ea:(w1.alloc (.map #[] 0)).heap.size=sb:=(by simp[hsb,hob]);have eb:((w1.alloc (.map #[] 0)).alloc (.map #[] 0)).heap.size=p:=(by simp[hp,hsb,hob]);have hb12:Below w1.heap.size w1 w2:=(by rw[hw2];exact(((Below.refl _ w1).alloc lR _).alloc (by simp) _).alloc (by simp;omega) _);have HN:=Hd (show w.heap.size+1=g∧g<B∧B<ob∧ob<sb∧sb<p by omega);have HB2:=Hd (hb1.trans (hb12.mono hb1.size));have G2:=Hd ((hg0.below hb (by omega)).below hb12 (by omega));have M2:=Hd ((hm0.below hb (by omega)).below hb12 (by omega));have P2:=Hd (show Blk w2 p 101 #[.int .i64 0,.int .i64 0,.map (some ob),.map (some sb)] by rw[hw2,←eb];exact Blk.new _ _ _);have R2:=Hd (hrs.below hb12);have S2:=Hd (show PcS w2 ob sb (p+1) 0 0 (fun _=>none) (fun _=>none)from PcS.made
  (by rw[hw2,hob];exact((MapF.made w1).alloc _).alloc _) (by rw[hw2,←ea];exact(MapF.made _).alloc _))
 have HZ2:=Hd (show p+1≤w2.heap.size by rw[hw2];simp[hp,hsb,hob]);have HQS:=Hd (show w1.heap.size=ob∧ob+1=sb∧sb+1=p by omega);have HW2:=Hd hw2;clear hrs hb hb0 hz0 hm0 hg0 hb1 hrl ea eb hb12 hw2 hob hsb hp hB hg hw0;go_wp2_with fail;simp only[HQS.out.1,HQS.out.2.1,HQS.out.2.2];rw[←HW2.out];refine(HC1.out B w.heap.size w2 R2.out M2.out (by have:=HN.out;omega)).mono ?_;rintro e w3 ⟨rfl,hrs,honly⟩;have HB3:=Hd (HB2.out.trans (honly.below (by have:=HN.out;omega) HB2.out.size));have G3:=Hd (G2.out.only honly (by have:=HN.out;omega));have M3:=Hd (M2.out.only honly (by have:=HN.out;omega));have P3:=Hd (P2.out.only honly (by have:=HN.out;omega));have S3:=Hd (S2.out.only honly (by have:=HN.out;omega) (by have:=HN.out;omega) (by have:=HN.out;omega));have R3:=Hd hrs;have HZ3:=Hd (dG HZ2.out honly.size);clear hrs honly
 by_cases ha:e1=0
 ·have HEa:=Hd ha;have qab:((e1:Int)==0)=true:=(by rw[beq_iff_eq];omega);have qac:((e1:Int) !=0)=false:=(by rw[bne_eq_false_iff_eq];omega);clear ha;have HC22:=Hd (HC2.out HEa.out);have y0:=P3.out.cell 0;have z0:=P3.out.frozen 0;simp only[bK,bL]at y0;go_wp2_with fail;refine(HC22.out B w3 R3.out).mono ?_;rintro e w4 ⟨rfl,hrs,honly⟩;have HB4:=Hd (HB3.out.trans (honly.below (by have:=HN.out;omega) HB3.out.size));have G4:=Hd (G3.out.only honly (by have:=HN.out;omega));have M4:=Hd (M3.out.only honly (by have:=HN.out;omega));have P4:=Hd (P3.out.only honly (by have:=HN.out;omega));have S4:=Hd (S3.out.only honly (by have:=HN.out;omega) (by have:=HN.out;omega) (by have:=HN.out;omega));have R4:=Hd hrs;have HZ4:=Hd (dG HZ3.out honly.size);clear hrs honly y0 z0;have y0:=P4.out.cell 0;have z0:=P4.out.frozen 0;simp only[bK,bL]at y0;have hse:Only p w4 (w4.setCell ⟨p,0,none⟩ (.int .i64 (n2:Nat))):=Only.set 0 _;have P5:=Hd (show Blk (w4.setCell ⟨p,0,none⟩ (.int .i64 (n2:Nat))) p 101 #[.int .i64 (n2:Nat),.int .i64 0,.map (some ob),.map (some sb)]from by simpa using P4.out.set 0 (.int .i64 (n2:Nat)));obtain⟨w5,hw5⟩:=eX (w4.setCell ⟨p,0,none⟩ (.int .i64 (n2:Nat)));rw[←hw5]at hse P5;have HW5:=Hd hw5;have HB5:=Hd (HB4.out.trans (hse.below (by have:=HN.out;omega) HB4.out.size));have G5:=Hd (G4.out.only hse (by have:=HN.out;omega));have M5:=Hd (M4.out.only hse (by have:=HN.out;omega));have S5:=Hd (S4.out.only hse (by omega) (by have:=HN.out;omega) (by have:=HN.out;omega));have R5:=Hd (R4.out.only hse (by have:=HN.out;omega) (dL P4.out.lt));have HZ5:=Hd (dG HZ4.out hse.size);clear hse hw5
  by_cases hb:e2=0
  ·have HEb:=Hd hb;have qbb:((e2:Int)==0)=true:=(by rw[beq_iff_eq];omega);have qbc:((e2:Int) !=0)=false:=(by rw[bne_eq_false_iff_eq];omega);clear hb;have HC32:=Hd (HC3.out HEa.out HEb.out);go_wp2_with fail;rw[←HW5.out];refine(HC32.out B p w5 _ _ _ R5.out P5.out (by have:=HN.out;omega)).mono ?_;rintro e w6 ⟨rfl,hrs,honly⟩;have HB6:=Hd (HB5.out.trans (honly.below (by have:=HN.out;omega) HB5.out.size));have G6:=Hd (G5.out.only honly (by have:=HN.out;omega));have M6:=Hd (M5.out.only honly (by have:=HN.out;omega));have P6:=Hd (P5.out.only honly (by have:=HN.out;omega));have S6:=Hd (S5.out.only honly (by have:=HN.out;omega) (by have:=HN.out;omega) (by have:=HN.out;omega));have R6:=Hd hrs;have HZ6:=Hd (dG HZ5.out honly.size);clear hrs honly y0 z0;have y1:=P6.out.cell 1;have z1:=P6.out.frozen 1;simp only[bK,bL,bM]at y1;have hse:Only p w6 (w6.setCell ⟨p,1,none⟩ (.int .i64 (n3:Nat))):=Only.set 1 _;have P7:=Hd (show Blk (w6.setCell ⟨p,1,none⟩ (.int .i64 (n3:Nat))) p 101 #[.int .i64 (n2:Nat),.int .i64 (n3:Nat),.map (some ob),.map (some sb)]from by simpa using P6.out.set 1 (.int .i64 (n3:Nat)));obtain⟨w7,hw7⟩:=eX (w6.setCell ⟨p,1,none⟩ (.int .i64 (n3:Nat)));rw[←hw7]at hse P7;have HW7:=Hd hw7;have HB7:=Hd (HB6.out.trans (hse.below (by have:=HN.out;omega) HB6.out.size));have G7:=Hd (G6.out.only hse (by have:=HN.out;omega));have M7:=Hd (M6.out.only hse (by have:=HN.out;omega));have S7:=Hd (S6.out.only hse (by omega) (by have:=HN.out;omega) (by have:=HN.out;omega));have R7:=Hd (R6.out.only hse (by have:=HN.out;omega) (dL P6.out.lt));have HZ7:=Hd (dG HZ6.out hse.size);clear hse hw7
   by_cases hc:e3=0
   ·have HEc:=Hd hc;have qcb:((e3:Int)==0)=true:=(by rw[beq_iff_eq];omega);have qcc:((e3:Int) !=0)=false:=(by rw[bne_eq_false_iff_eq];omega);clear hc;have HC42:=Hd (HC4.out HEa.out HEb.out HEc.out);have HCR2:=Hd (HCR.out HEa.out HEb.out);have HC62:=Hd (HC6.out HEa.out HEb.out HEc.out);go_wp2_with fail;rw[←HW7.out];clear y1 z1;refine Ax [eF (.agg #[.int .i64 (n2:Nat),.int .i64 (n3:Nat),.map (some ob),.map (some sb)]),eF (.pointer (some ⟨B,0,none⟩)),eF (.pointer (some ⟨p,0,none⟩)),eF (.int .i64 (n2:Nat)),eF (.int .i64 (x:Nat)),fun v w'=>v=.int .u8 (rr.er:Nat)∧(rr.er=0→RS w' B rr.rest 0∧PcS w' ob sb (p+1) (0+rr.op.length) (0+rr.sh.length) (Lf (fun _=>none) rr.op) (Ok (fun _=>none) rr.sh)),eF (.int .u8 (rr.er:Nat))]
     (List.replicate 7 true) (fun x=>On3 B ob sb w7 x) (fun x y=>On3 B ob sb x y) (some 5) (by kernel_rfl) ?_ ⟨rfl,rfl,rfl,lR,fun _ _ _ _ _=>rfl⟩ (fun x y _ h=>On3.below h) (fun x y hx hs=>hx.trans hs) (by kernel_rfl) (by kernel_rfl) ?_ ?_
    ·exact kE (kE (kE (kE (kE (Cs (fun v x y h _ hb=>⟨h.1,fun e=>⟨(h.2 e).1.below hb,(h.2 e).2.below hb⟩⟩) (Ad (fun _ _ _ h _ _=>h) Aj))))))
    ·refine gO ?_ (gP ?_ rfl (gP ?_ rfl (gO ?_ (gO ?_ (gOw (by kernel_rfl) ?_ (gP ?_ rfl .nil))))));all_goals
      intro a2 wx hbx hbq ho hf;have hbx:On3 B ob sb w7 wx:=hbx;refine⟨rfl,?_⟩;intro K hK;try have Pf7:a2.tmps[7]?.getD undef=.pointer (some ⟨p,0,none⟩):=ho 7 (by kernel_rfl)
      try have Pf6:a2.tmps[6]?.getD undef=.pointer (some ⟨B,0,none⟩):=ho 6 (by kernel_rfl)
      try have Ef0:=eqn hf.1
      try have Ef1:=eqn hf.2.1
      try have Ef2:=eqn hf.2.2.1
      try(refine Hd ?_;go_simp;exact hK _ rfl)
     ·have hpx:=P7.out.on3 hbx (by have:=HN.out;omega) (by have:=HN.out;omega) (by have:=HN.out;omega);exact wp_load_row 101 (.tmp 7) rfl _ (evs Pf7) _ _ (0,0) _ hpx Tryz.underlying101 rfl (by kernel_rfl) (hK _ _ rfl (Ab rfl bR))
     ·have hpx:=P7.out.on3 hbx (by have:=HN.out;omega) (by have:=HN.out;omega) (by have:=HN.out;omega);have c0:=hpx.cell 0;simp only[bK,bL]at c0;go_simp;exact hK _ _ rfl (Ab rfl bR)
     ·go_simp;refine(HCR2.out wx).mono ?_;rintro e w8 ⟨rfl,rfl⟩;exact hK _ _ rfl (Ab rfl bR)
     ·go_simp;refine(HC42.out B ob sb (p+1) wx (by have:=HN.out;omega) (by have:=HN.out;omega) (by have:=HN.out;omega) (by have:=HN.out;omega) (by have:=HN.out;omega) (by have:=HZ7.out;have:=hbq.size;omega) (R7.out.below hbq) (S7.out.below hbq)).mono ?_;rintro e w8 ⟨rfl,h2,h3⟩;exact hK _ _ ⟨rfl,h3⟩ (Cc rfl h2)
     ·refine Hd ?_;have Ef4:a2.tmps[49]?.getD undef=.int .u8 (rr.er:Nat):=hf.1.1;go_simp;exact hK _ rfl
    ·rintro f w8 hb hfin;have hb:On3 B ob sb w7 w8:=hb;have hpost:rr.er=0→RS w8 B rr.rest 0∧PcS w8 ob sb (p+1) (0+rr.op.length) (0+rr.sh.length) (Lf (fun _=>none) rr.op) (Ok (fun _=>none) rr.sh):=hfin.2.2.2.2.2.1.2;have Sr:f 9=.int .u8 (rr.er:Nat):=hfin.2.2.2.2.2.2.1;clear hfin;simp only[Aw,Bl,Ga,List.filterMap_cons,List.filterMap_nil,List.contains_cons,List.contains_nil,Nat.reduceBEq,Nat.reduceAdd,Bool.or_false,Bool.or_true,cond_true,cond_false];rw[Sr];clear Sr;have HB8:=Hd (HB7.out.trans (hb.low (by have:=HN.out;omega) (by have:=HN.out;omega) (by have:=HN.out;omega) HB7.out.size));have G8:=Hd (G7.out.on3 hb (by have:=HN.out;omega) (by have:=HN.out;omega) (by have:=HN.out;omega));have M8:=Hd (M7.out.on3 hb (by have:=HN.out;omega) (by have:=HN.out;omega) (by have:=HN.out;omega));have P8:=Hd (P7.out.on3 hb (by have:=HN.out;omega) (by have:=HN.out;omega) (by have:=HN.out;omega));have HPO:=Hd hpost;clear hb hpost
     by_cases hd:rr.er=0
     ·have HEd:=Hd hd;have qdb:((rr.er:Int)==0)=true:=(by rw[beq_iff_eq];omega);have qdc:((rr.er:Int) !=0)=false:=(by rw[bne_eq_false_iff_eq];omega);clear hd;have HC63:=Hd (HC62.out HEd.out);obtain⟨hr8,hs8⟩:=HPO.out HEd.out;rw[cG,cG,Zg2,Zg3]at hs8;have HE8:=Hd (HEN.out B w8 hr8);have S8:=Hd hs8;have HX52:=Hd (HX5.out HEa.out HEb.out HEc.out HEd.out);have HX62:=Hd (HX6.out HEa.out HEb.out HEc.out HEd.out);clear hr8 hs8;obtain⟨e5,he5⟩:=eX (Ze8 rr.rest 0);rw[←he5]at HE8 HX52 HX62;clear he5;go_wp2_with fail;refine HE8.out.mono ?_;rintro e w' ⟨rfl,rfl⟩
      by_cases he:e5=0
      ·have HEe:=Hd he;have qeb:((e5:Int)==0)=true:=(by rw[beq_iff_eq];omega);have qec:((e5:Int) !=0)=false:=(by rw[bne_eq_false_iff_eq];omega);clear he;have c0:=M8.out.cell 0;simp only[bK,bL]at c0;obtain⟨om,hom2⟩:=eX (((mk:Int)==2));have hq2:((mk:Int)==2)=om:=hom2.symm;have HC64:=HC63.out ob sb w8 S8.out.pieceN S8.out.pieceH;rw[←HOM.out,←hom2]at HC64;have HC65:=Hd HC64;obtain⟨RB,hRB⟩:=eX (Az ⟨(n2:Int),(n3:Int),rr.op,rr.sh⟩ om);have HRB:=Hd (show Az ⟨(n2:Int),(n3:Int),rr.op,rr.sh⟩ only=RB by rw[hRB,hom2,HOM.out]);rw[←hRB]at HC65;clear hom2 HC64 hRB;go_wp2_with (refine Ai rfl 101 (.tmp 7) rfl p rfl 101 #[.int .i64 (n2:Nat),.int .i64 (n3:Nat),.map (some ob),.map (some sb)] (0,0) _ P8.out Tryz.underlying101 rfl (by kernel_rfl) ?_);refine HC65.out.mono ?_;rintro e w9 ⟨rfl,hb⟩;have HB9:=Hd (HB8.out.trans (hb.mono HB8.out.size));have G9:=Hd (G8.out.below hb G8.out.lt);have P9:=Hd (P8.out.below hb P8.out.lt);have S9:=Hd (S8.out.below hb);clear hb c0;have HX63:=Hd (HX62.out HEe.out RB HRB.out);cases RB with
       |true=>
        go_wp2_with (first
         |(refine Ai rfl 101 (.tmp 7) rfl p rfl 101 #[.int .i64 (n2:Nat),.int .i64 (n3:Nat),.map (some ob),.map (some sb)] (0,0) _ P9.out Tryz.underlying101 rfl (by kernel_rfl) ?_)
         |(refine Aa rfl 101 (.tmp 4) (.tmp 66) rfl g #[.int .i64 (n2:Nat),.int .i64 (n3:Nat),.map (some ob),.map (some sb)] rfl rfl 101 #[.int .i64 0,.int .i64 0,.map none,.map none] G9.out (by kernel_rfl) rfl rfl ?_))
        rintro w30 hblk hbl hoth hsize;have P30:=Hd hblk;have B30:=Hd (HB9.out.trans (hbl w.heap.size (by have:=HN.out;omega)));have S30:=Hd (S9.out.only (Only.storeQ hbl hoth) (by have:=HN.out;omega) (by have:=HN.out;omega) (by have:=HN.out;omega));clear hblk hbl hoth hsize;go_wp2_with fail;refine bodyPost_ret (v:=.tuple #[.agg #[.int .i64 (n2:Nat),.int .i64 (n3:Nat),.map (some ob),.map (some sb)],.int .u8 0]) (Af Tryz.results66 _ _ g _ _ _ rfl P30.out Tryz.underlying101 rfl (by kernel_rfl)) rfl ?_;rw[HX63.out.trans (if_pos trivial)];refine⟨B30.out,?_⟩;rw[if_pos rfl];exact⟨ob,sb,p+1,rfl,by have:=HN.out;omega,by have:=HN.out;omega,by have:=HN.out;omega,by have:=HN.out;omega,by have:=HN.out;omega,S30.out⟩
       |false=>
        go_wp2_with (refine Aa rfl 101 (.tmp 4) (.tmp 65) rfl g #[.int .i64 0,.int .i64 0,.map none,.map none] rfl rfl 101 #[.int .i64 0,.int .i64 0,.map none,.map none] G9.out (by kernel_rfl) rfl rfl ?_);rintro w30 hblk hbl hoth hsize;have P30:=Hd hblk;have B30:=Hd (HB9.out.trans (hbl w.heap.size (by have:=HN.out;omega)));clear hblk hbl hoth hsize;go_wp2_with fail;refine bodyPost_ret (v:=.tuple #[.agg #[.int .i64 0,.int .i64 0,.map none,.map none],.int .u8 3]) (Af Tryz.results66 _ _ g _ _ _ rfl P30.out Tryz.underlying101 rfl (by kernel_rfl)) rfl ?_;rw[HX63.out];exact⟨B30.out,rfl⟩
      ·have HF:=Hd he;have qeb:((e5:Int)==0)=false:=(by rw[beq_eq_false_iff_ne];omega);have qec:((e5:Int) !=0)=true:=(by rw[bne_iff_ne];omega);clear he;go_wp2_with (refine Aa rfl 101 (.tmp 4) (.tmp 57) rfl g #[.int .i64 0,.int .i64 0,.map none,.map none] rfl rfl 101 #[.int .i64 0,.int .i64 0,.map none,.map none] G8.out (by kernel_rfl) rfl rfl ?_);rintro w30 hblk hbl hoth hsize;have P30:=Hd hblk;have B30:=Hd (HB8.out.trans (hbl w.heap.size (by have:=HN.out;omega)));clear hblk hbl hoth hsize;go_wp2_with fail;refine bodyPost_ret (v:=.tuple #[.agg #[.int .i64 0,.int .i64 0,.map none,.map none],.int .u8 (e5:Nat)]) (Af Tryz.results66 _ _ g _ _ _ rfl P30.out Tryz.underlying101 rfl (by kernel_rfl)) rfl ?_;rw[HX52.out HF.out];exact⟨B30.out,by rw[if_neg HF.out]⟩
     ·have HF:=Hd hd;have qdb:((rr.er:Int)==0)=false:=(by rw[beq_eq_false_iff_ne];omega);have qdc:((rr.er:Int) !=0)=true:=(by rw[bne_iff_ne];omega);clear hd;go_wp2_with (refine Aa rfl 101 (.tmp 4) (.tmp 57) rfl g #[.int .i64 0,.int .i64 0,.map none,.map none] rfl rfl 101 #[.int .i64 0,.int .i64 0,.map none,.map none] G8.out (by kernel_rfl) rfl rfl ?_);rintro w30 hblk hbl hoth hsize;have P30:=Hd hblk;have B30:=Hd (HB8.out.trans (hbl w.heap.size (by have:=HN.out;omega)));clear hblk hbl hoth hsize;go_wp2_with fail;refine bodyPost_ret (v:=.tuple #[.agg #[.int .i64 0,.int .i64 0,.map none,.map none],.int .u8 (rr.er:Nat)]) (Af Tryz.results66 _ _ g _ _ _ rfl P30.out Tryz.underlying101 rfl (by kernel_rfl)) rfl ?_;rw[HX4.out HEa.out HEb.out HEc.out HF.out];exact⟨B30.out,by rw[if_neg HF.out]⟩
   ·have HF:=Hd hc;have qcb:((e3:Int)==0)=false:=(by rw[beq_eq_false_iff_ne];omega);have qcc:((e3:Int) !=0)=true:=(by rw[bne_iff_ne];omega);clear hc;go_wp2_with (refine Aa rfl 101 (.tmp 4) (.tmp 57) rfl g #[.int .i64 0,.int .i64 0,.map none,.map none] rfl rfl 101 #[.int .i64 0,.int .i64 0,.map none,.map none] (by rw[←HW7.out];exact G7.out) (by kernel_rfl) rfl rfl ?_);rintro w30 hblk hbl hoth hsize;simp only[←HW7.out]at hbl;have P30:=Hd hblk;have B30:=Hd (HB7.out.trans (hbl w.heap.size (by have:=HN.out;omega)));clear hblk hbl hoth hsize;go_wp2_with fail;refine bodyPost_ret (v:=.tuple #[.agg #[.int .i64 0,.int .i64 0,.map none,.map none],.int .u8 (e3:Nat)]) (Af Tryz.results66 _ _ g _ _ _ rfl P30.out Tryz.underlying101 rfl (by kernel_rfl)) rfl ?_;rw[HX3.out HEa.out HEb.out HF.out];exact⟨B30.out,by rw[if_neg HF.out]⟩
  ·have HF:=Hd hb;have qbb:((e2:Int)==0)=false:=(by rw[beq_eq_false_iff_ne];omega);have qbc:((e2:Int) !=0)=true:=(by rw[bne_iff_ne];omega);clear hb;go_wp2_with (refine Aa rfl 101 (.tmp 4) (.tmp 57) rfl g #[.int .i64 0,.int .i64 0,.map none,.map none] rfl rfl 101 #[.int .i64 0,.int .i64 0,.map none,.map none] (by rw[←HW5.out];exact G5.out) (by kernel_rfl) rfl rfl ?_);rintro w30 hblk hbl hoth hsize;simp only[←HW5.out]at hbl;have P30:=Hd hblk;have B30:=Hd (HB5.out.trans (hbl w.heap.size (by have:=HN.out;omega)));clear hblk hbl hoth hsize;go_wp2_with fail;refine bodyPost_ret (v:=.tuple #[.agg #[.int .i64 0,.int .i64 0,.map none,.map none],.int .u8 (e2:Nat)]) (Af Tryz.results66 _ _ g _ _ _ rfl P30.out Tryz.underlying101 rfl (by kernel_rfl)) rfl ?_;rw[HX2.out HEa.out HF.out];exact⟨B30.out,by rw[if_neg HF.out]⟩
 ·have HF:=Hd ha;have qab:((e1:Int)==0)=false:=(by rw[beq_eq_false_iff_ne];omega);have qac:((e1:Int) !=0)=true:=(by rw[bne_iff_ne];omega);clear ha;go_wp2_with (refine Aa rfl 101 (.tmp 4) (.tmp 57) rfl g #[.int .i64 0,.int .i64 0,.map none,.map none] rfl rfl 101 #[.int .i64 0,.int .i64 0,.map none,.map none] G3.out (by kernel_rfl) rfl rfl ?_);rintro w30 hblk hbl hoth hsize;have P30:=Hd hblk;have B30:=Hd (HB3.out.trans (hbl w.heap.size (by have:=HN.out;omega)));clear hblk hbl hoth hsize;go_wp2_with fail;refine bodyPost_ret (v:=.tuple #[.agg #[.int .i64 0,.int .i64 0,.map none,.map none],.int .u8 (e1:Nat)]) (Af Tryz.results66 _ _ g _ _ _ rfl P30.out Tryz.underlying101 rfl (by kernel_rfl)) rfl ?_;rw[HX1.out HF.out];exact⟨B30.out,by rw[if_neg HF.out]⟩
theorem Zg4 (v:Value)(L:List Nat)(mk:Nat)(only:Bool)(w:World)(h:Rd w v (bvs L))(hl:L.length≤4000)(hL:∀n∈L,n<256)(hom:((mk:Int)==2)=only)(hm:mk<256):
  Calls Tryz.prog 66 #[v,.int .i64 (mk:Nat)] w (Zkd (ofT only mk L) w):=by
 obtain⟨a,cp,rfl,-,-⟩:=id h;rw[bvs_len]at h⊢;unfold ofT Zkc Zkb Zka;rw[if_neg (by omega)];have g1:=Id L 1 fun n=>n==mk;have o1:=fun h=>Rj (L:=L) (s:=1) (P:=fun n=>n==mk) h;have C1:=fun(B g:Nat) (W:World) (hW:RS W B L 0) (hb:Blk W g 3 #[.int .i64 (mk:Nat)]) (hne:g≠B)=>Po 119 (.pointer (some ⟨g,0,none⟩)) (fun _ _=>rfl) B L 1 (fun n=>n==mk) W hW (.inl rfl) hL fun n W2 hn hW2=>Zd7 n g mk W2 (by have:=(hb.only hW2 hne).cell 0;simpa using this);generalize Ig L 1 (fun n=>n==mk)=r1 at g1 o1 C1⊢;have hL1:∀n∈r1.2.2.1,n<256:=fun n hn=>hL n (g1.2 n hn);have g2:=(Id r1.2.2.1 4 fits).trans g1;have o2:=fun h=>Rj (L:=r1.2.2.1) (s:=4) (P:=fits) h;have b2:=Rk (P:=fits) hL1 (.inr rfl);have C2:=fun(B:Nat) (W:World) (hW:RS W B r1.2.2.1 0)=>Zd6 113 (fun _ _=>rfl) B r1.2.2.1 4 fits W hW (.inr rfl) hL1 fun n W2 hn hW2=>by
  have:=Jb (n:Int) W2 (by omega) (by omega);rw[cO]at this;exact this.mono fun e w' h=>⟨h.1,h.2.symm⟩
 generalize Ig r1.2.2.1 4 fits=r2 at g2 o2 b2 C2⊢;have hL2:∀n∈r2.2.2.1,n<256:=fun n hn=>hL n (g2.2 n hn);have g3:=(Id r2.2.2.1 4 fun i=>decide (i<r2.1)).trans g2;have o3:=fun h=>Rj (L:=r2.2.2.1) (s:=4) (P:=fun i=>decide (i<r2.1)) h;have b3:=Rk (P:=fun i=>decide (i<r2.1)) hL2 (.inr rfl);have C3:=fun(B g:Nat) (W:World) (y1 y2 y3:Value) (hW:RS W B r2.2.2.1 0) (hb:Blk W g 101 #[.int .i64 (r2.1:Nat),y1,y2,y3]) (hne:g≠B)=>Po 120 (.pointer (some ⟨g,0,none⟩)) (fun _ _=>rfl) B r2.2.2.1 4 (fun i=>decide (i<r2.1)) W hW (.inr rfl) hL2 fun n W2 hn hW2=>Zd8 n g r2.1 W2 (by have:=(hb.only hW2 hne).cell 0;simpa using this);generalize Ig r2.2.2.1 4 (fun i=>decide (i<r2.1))=r3 at g3 o3 b3 C3⊢;have hL3:∀n∈r3.2.2.1,n<256:=fun n hn=>hL n (g3.2 n hn);have FL:=fun(h:r2.2.1=0)=>Rl (o2 h).1;have C4:=fun(h2:r2.2.1=0) (B ob sb g:Nat) (W:World) (k1:B<ob) (k2:B<sb) (k3:ob≠sb) (k4:ob<g) (k5:sb<g) (k6:g≤W.heap.size) (hW:RS W B r3.2.2.1 0) (hS:PcS W ob sb g 0 0 (fun _=>none) (fun _=>none))=>
  Zgz (aV r2.1) (FL h2).2.2.1 (r2.1-1) (r2.1:Nat) (r3.1:Nat) B ob sb g 0 0 r3.2.2.1 (fun _=>none) (fun _=>none) W (FL h2).2.2.2.2 (by have:=(FL h2).1;have:=(FL h2).2.1;omega) (by have:=(FL h2).1;omega) k1 k2 k3 k4 k5 k6 hW hS (by have:=g3.1;omega) hL3
 have CR:=fun(h2:r2.2.1=0) (W:World)=>(show Calls Tryz.prog 61 #[.int .i64 (r2.1:Nat)] W fun e w'=>e=.returned (.int .i64 ((r2.1-1:Nat):Int))∧W=w' from by
  have:=Wc (r2.1:Int) W (by omega) (by omega)
  rwa [(FL h2).2.2.2.1]at this)
 have C6:=fun(h2:r2.2.1=0) (h4:(rdP (aV r2.1) (r2.1-1) r3.2.2.1).er=0)=>Tw (k:=aV r2.1) (x:=r2.1-1) (n:=r2.1) (i:=r3.1) hL3 (by have:=g3.1;omega) (by have:=(FL h2).1;omega) (by have:=(FL h2).1;have:=(FL h2).2.1;omega) (by omega) (by omega) h4;generalize hrr:rdP (aV r2.1) (r2.1-1) r3.2.2.1=rr at C4 C6⊢;refine Zef a cp L r1.2.2.1 r2.2.2.1 r3.2.2.1 mk r1.1 r2.1 r3.1 r1.2.1 r2.2.1 r3.2.1 r1.2.2.2 r2.2.2.2 r3.2.2.2 0 (r2.1-1) only rr _ w h hl hom C1 (fun e B W hW=> ?_) (fun e e2 B g W y1 y2 y3 hW=> ?_) (fun e e2 e3 B ob sb g W k1 k2 k3 k4 k5 k6 hW=> ?_) (fun e e2=>CR e2) (fun e e2 e3 e4 ob sb W h1 h2=> ?_) (fun e=> ?_) (fun e e2=> ?_) (fun e e2 e3=> ?_) (fun e e2 e3 e4=> ?_) (fun e e2 e3 e4 e5=> ?_) (fun e e2 e3 e4 e5 b hb=> ?_)
 ·rw[(o1 e).2]at hW;exact C2 B W hW
 ·rw[(o2 e2).2]at hW;exact C3 B g W y1 y2 y3 hW
 ·rw[(o3 e3).2]at hW;exact C4 e2 B ob sb g W k1 k2 k3 k4 k5 k6 hW
 ·obtain⟨q1,q2,q3⟩:=C6 e2 e4;exact Zg1 ⟨(r2.1:Int),(r3.1:Int),rr.op,rr.sh⟩ only ob sb W q1 q2 q3 h1 h2
 ·rw[if_pos e]
 ·rw[if_neg (by omega),if_pos e2]
 ·rw[if_neg (by omega),if_neg (by omega),if_pos e3]
 ·rw[if_neg (by omega),if_neg (by omega),if_neg (by omega),if_pos e4]
 ·rw[if_neg (by omega),if_neg (by omega),if_neg (by omega),if_neg (by omega),if_pos e5]
 ·rw[if_neg (by omega),if_neg (by omega),if_neg (by omega),if_neg (by omega),if_neg (by omega)]
  by_cases hb2:b=true
  ·rw[if_pos (hb.trans hb2),if_pos hb2]
  ·rw[if_neg (fun hc=>hb2 (hb.symm.trans hc)),if_neg hb2]
structure SpGood (s:SparseD):Prop where
 ok:SparseOk s
 small:Fv s=true
 piece:Cp s=true
 opPos:∀p∈s.op,0≤p.1
 shPos:∀p∈s.sh,0≤p.1
 opUp:(s.op.map (·.1)).Pairwise (· < ·)
 shUp:(s.sh.map (·.1)).Pairwise (· < ·)
theorem Zeg {k x n i:Nat} {L:List Nat}(hL:∀y∈L,y<256)(hl:L.length≤4000)(hx:2^k≤x+1)(hxm:x+2^k≤131071)(hn:n≤4294967296)(hi:i≤4294967296)(h:(rdP k x L).er=0):
  SpGood ⟨(n:Int),(i:Int),(rdP k x L).op,(rdP k x L).sh⟩:=by
 obtain⟨h1,h2,h3⟩:=Tw (n:=n) (i:=i) hL hl hx hxm hn hi h;have o:=Tt k x L hx h;exact⟨h1,h2,h3,fun p hp=>by have:=(o.opIn p hp).1;omega,fun p hp=>by have:=(o.shIn p hp).1;omega,Md o.opUp,Md o.shUp⟩
theorem Yg {only:Bool} {mk:Nat} {L:List Nat}(hL:∀y∈L,y<256)(hl:L.length≤4000)(h:(ofT only mk L).1=0):SpGood (ofT only mk L).2∧Az (ofT only mk L).2 only=true:=by
 unfold ofT Zkc Zkb Zka at h⊢;rw[if_neg (by omega)]at h⊢;have g1:=Id L 1 fun n=>n==mk;generalize Ig L 1 (fun n=>n==mk)=r1 at g1 h⊢
 split at h
 ·rename_i c;exact absurd h c
 ·rename_i c1
  rw[if_neg c1];have hL1:∀n∈r1.2.2.1,n<256:=fun n hn=>hL n (g1.2 n hn);have g2:=(Id r1.2.2.1 4 fits).trans g1;have o2:=fun h=>Rj (L:=r1.2.2.1) (s:=4) (P:=fits) h;have b2:=Rk (P:=fits) hL1 (.inr rfl);generalize Ig r1.2.2.1 4 fits=r2 at g2 o2 b2 h⊢
  split at h
  ·rename_i c;exact absurd h c
  ·rename_i c2
   rw[if_neg c2];have hL2:∀n∈r2.2.2.1,n<256:=fun n hn=>hL n (g2.2 n hn);have g3:=(Id r2.2.2.1 4 fun i=>decide (i<r2.1)).trans g2;have b3:=Rk (P:=fun i=>decide (i<r2.1)) hL2 (.inr rfl);generalize Ig r2.2.2.1 4 (fun i=>decide (i<r2.1))=r3 at g3 b3 h⊢
   split at h
   ·rename_i c;exact absurd h c
   ·rename_i c3
    rw[if_neg c3];have FL:=Rl (o2 (by omega)).1;have G:=fun(h4:(rdP (aV r2.1) (r2.1-1) r3.2.2.1).er=0)=>Zeg (k:=aV r2.1) (x:=r2.1-1) (n:=r2.1) (i:=r3.1) (fun n hn=>hL n (g3.2 n hn)) (by have:=g3.1;omega) (by have:=FL.1;omega) (by have:=FL.1;have:=FL.2.1;omega) (by omega) (by omega) h4;generalize rdP (aV r2.1) (r2.1-1) r3.2.2.1=rr at G h⊢
    split at h
    ·rename_i c;exact absurd h c
    ·rename_i c4
     rw[if_neg c4]
     split at h
     ·rename_i c;exact absurd h c
     ·rename_i c5
      rw[if_neg c5]
      split at h
      ·rename_i c6
       rw[if_pos c6];exact⟨G (by omega),c6⟩
      ·cases h
theorem Zeh {only:Bool} {mk:Nat} {L:List Nat}(h:(ofT only mk L).1≠0):(ofT only mk L).2=Ex:=by
 unfold ofT Zkc Zkb Zka at h⊢
 split at h
 ·rename_i c;rw[if_pos c]
 ·rename_i c0
  rw[if_neg c0]
  split at h
  ·rename_i c;rw[if_pos c]
  ·rename_i c1
   rw[if_neg c1]
   split at h
   ·rename_i c;rw[if_pos c]
   ·rename_i c2
    rw[if_neg c2]
    split at h
    ·rename_i c;rw[if_pos c]
    ·rename_i c3
     rw[if_neg c3]
     split at h
     ·rename_i c;rw[if_pos c]
     ·rename_i c4
      rw[if_neg c4]
      split at h
      ·rename_i c;rw[if_pos c]
      ·rename_i c5
       rw[if_neg c5]
       split at h
       ·exact absurd rfl h
       ·rename_i c6;rw[if_neg c6]
theorem Yh {α:Type} {l:List (Int×α)} {D:Nat→α}(hp:∀p∈l,0≤p.1)(hD:∀p∈l,D p.1.toNat=p.2):(l.map fun p=>p.1.toNat).map (fun m:Nat=>((m:Int),D m))=l:=by
 rw[gU]
 conv=>rhs;rw[←List.map_id l]
 refine fY fun p hp2=> ?_;show(((p.1.toNat:Nat):Int),D p.1.toNat)=p;rw[hD p hp2,gV (hp p hp2)]
theorem Yi {α:Type} {l:List (Int×α)}(hp:∀p∈l,0≤p.1):((l.map fun p=>p.1.toNat).map fun m:Nat=>(m:Int))=l.map (·.1):=by
 rw[gU];refine fY fun p hp2=> ?_;show((p.1.toNat:Nat):Int)=p.1;exact gV (hp p hp2)
theorem Zei {w:World} {G:Int→Option Value} {H:Int→Option (List Nat)}(h:RunsH w G H)(x:Int):(G x).isSome=(H x).isSome:=by
 have:=h x;cases e:H x with
 |none=>rw[e]at this;have this:G x=none:=this;rw[this];rfl
 |some L=>rw[e]at this;obtain⟨v,h1,h2⟩:=this;rw[h1];rfl
theorem Zg5 (s:SparseD)(hs:SpGood s)(ob sb:Nat)(w:World)(h1:PieceN w ob s.op.length (Am s.op))(h2:PieceH w sb s.sh.length (By s.sh)):
  Calls Tryz.prog 67 #[.agg #[.int .i64 s.leaves,.int .i64 s.own,.map (some ob),.map (some sb)]] w fun e w'=>∃v',e=.returned v'∧SparseR w' v' s∧Below w.heap.size w w'∧∀(g:Nat) (W:World),g<w.heap.size→Only g w' W→SparseR W v' s:=by
 obtain⟨G,hm,hG⟩:=h1;obtain⟨G2,hm2,hG2⟩:=h2;have hG:NodesG w G (Am s.op):=hG;have hG2:RunsH w G2 (By s.sh):=hG2;obtain⟨hl1,hl2⟩:=Fw hs.small;have hsm:=hs.small;unfold Fv at hsm;simp only[bS,decide_eq_true_eq]at hsm;have fs:=fun p (hp:p∈s.op)=>Nn hs.opUp hp;have fh:=fun p (hp:p∈s.sh)=>Kr hs.shUp hp;have e1:=Yh (l:=s.op) (D:=fun m:Nat=>(Am s.op m).getD Ak) hs.opPos fun p hp=>by
  show(Am s.op ((p.1.toNat:Nat):Int)).getD Ak=p.2;rw[gV (hs.opPos p hp),fs p hp];rfl
 have e2:=Yh (l:=s.sh) (D:=fun m:Nat=>(By s.sh m).getD []) hs.shPos fun p hp=>by
  show(By s.sh ((p.1.toNat:Nat):Int)).getD []=p.2;rw[gV (hs.shPos p hp),fh p hp];rfl
 have n1:=Yi hs.opPos;have n2:=Yi hs.shPos;have:=Pl s.leaves s.own ob sb s.op.length s.sh.length G G2 (s.op.map fun p=>p.1.toNat) (s.sh.map fun p=>p.1.toNat) (fun m=>(Am s.op m).getD Ak) (fun m=>(By s.sh m).getD []) w hm hm2 (by omega) (by omega)
  (by rw[n1];exact⟨hs.opUp,fun x=>by rw[Rc,(hG.val x).2]⟩)
  (by rw[n2];exact⟨hs.shUp,fun x=>by rw[Kq,Zei hG2 x]⟩)
  (fun m hm=>by
   obtain⟨p,hp,rfl⟩:=List.mem_map.1 hm;have hc:=hG ((p.1.toNat:Nat):Int);rw[gV (hs.opPos p hp),fs p hp]at hc⊢;obtain⟨c,q1,q2⟩:=hc;exact⟨(hs.ok.op p hp).1,List.all_eq_true.1 hsm.1.2 p hp,c,q1,q2⟩)
  (fun m hm=>by
   obtain⟨p,hp,rfl⟩:=List.mem_map.1 hm;have hc:=hG2 ((p.1.toNat:Nat):Int);rw[gV (hs.shPos p hp),fh p hp]at hc⊢;obtain⟨c,q1,q2⟩:=hc;exact⟨(hs.ok.sh p hp).1,by have:=of_decide_eq_true (List.all_eq_true.1 hsm.2 p hp);show p.2.length≤_;omega,c,q1,q2⟩)
  (by rw[fJ];omega) (by rw[fJ];omega)
 rw[e1,e2]at this;exact this
theorem Zkg (w:World):SparseR w (.agg #[.int .i64 0,.int .i64 0,.slice none 0 0,.slice none 0 0]) Ex:=⟨_,_,rfl,SpotsR.nil w,StubsR.nil w⟩
theorem Zg6 (v:Value)(L:List Nat)(w:World)(h:Rd w v (bvs L))(hl:L.length≤4000)(hL:∀n∈L,n<256):
  Calls Tryz.prog 22 #[v] w fun e w'=>(∃c,e=.returned (.tuple #[.agg c,.int .u8 ((ofT false 1 L).1:Nat)])∧SparseR w' (.agg c) (ofT false 1 L).2)∧Below w.heap.size w w':=by
 have RD:=fun(W:World) (hw:Below w.heap.size w W)=>Zg4 v L 1 false W (h.below hw lR) hl hL rfl (by omega);have GO:=fun h=>(Yg (only:=false) (mk:=1) hL hl h).1;have ER:=fun h=>Zeh (only:=false) (mk:=1) (L:=L) h;obtain⟨R,hR⟩:=eX ((ofT false 1 L));rw[←hR]at RD GO ER⊢;obtain⟨g,hg⟩:=eX w.heap.size;have HG:=Hd hg;have HRD:=Hd (RD (w.alloc (.cells #[.int .i64 0,.int .i64 0,.slice none 0 0,.slice none 0 0] 25)) ((Below.refl w.heap.size w).alloc lR _));have G0:=Hd (show Blk (w.alloc (.cells #[.int .i64 0,.int .i64 0,.slice none 0 0,.slice none 0 0] 25)) g 25 #[.int .i64 0,.int .i64 0,.slice none 0 0,.slice none 0 0] by rw[hg];exact Blk.new _ _ _);have HB0:=Hd ((Below.refl w.heap.size w).alloc lR (.cells #[.int .i64 0,.int .i64 0,.slice none 0 0,.slice none 0 0] 25));have HGO:=Hd GO;have HERR:=Hd ER;obtain⟨er,her⟩:=eX R.1;rw[←her];have HE:=Hd her;clear RD GO ER hR hg her h hl hL;go_enter Tryz.func22,Tryz.ntmps22;go_wp2_with fail;refine HRD.out.mono ?_;rintro e w1 ⟨hb,hr⟩;have HB1:=Hd (HB0.out.trans (hb.mono HB0.out.size));have G1:=Hd (G0.out.below hb G0.out.lt);rw[←HG.out];rw[←HE.out]at hr;clear hb
 by_cases h0:er=0
 ·rw[if_pos h0]at hr;have h0b:((er:Int) !=0)=false:=(by rw[bne_eq_false_iff_eq];omega);have HGD:=Hd (HGO.out (by rw[←HE.out];exact h0));obtain⟨ob,sb,gg,rfl,h1,h2,h3,-,-,hPS⟩:=hr;have hN:=hPS.pieceN;have hH:=hPS.pieceH;clear hPS;obtain⟨s,hs⟩:=eX R.2;rw[←hs]at hN hH HGD;have HSE:=Hd hs;rw[←hs];have HSP:=Hd fun(W:World) (hW:Below w1.heap.size w1 W)=>Zg5 s HGD.out ob sb W (hN.below hW lR) (hH.below hW lR);obtain⟨lv,hlv⟩:=eX s.leaves;obtain⟨ow,how⟩:=eX s.own;rw[←hlv,←how]at HSP⊢;have hE0:er=0:=h0;subst hE0;clear h0 h1 h2 h3 hN hH hs hlv how;go_wp2_with fail;refine(HSP.out _ ((Below.refl w1.heap.size w1).alloc lR _)).mono ?_;rintro e w2 ⟨v,rfl,hsr,hb,hon⟩;have hba:=(Below.refl w1.heap.size w1).alloc lR (.cells #[.int .i64 lv,.int .i64 ow,.map (some ob),.map (some sb)] 101);have HB2:=Hd (HB1.out.trans (((hba).trans (hb.mono hba.size)).mono HB1.out.size));have G2:=Hd ((G1.out.below hba G1.out.lt).below hb (by have:=G1.out.lt;simp;omega));have HON:=Hd fun(W:World) (hW:Only g w2 W)=>hon g W (by have:=G1.out.lt;simp;omega) hW;obtain⟨o1,o2,rfl,-,-⟩:=id hsr;have ho1:o1.oneCell'=true:=(by obtain⟨x,y,e,q1,-⟩:=hsr;cases e;obtain⟨a,c,rfl,-⟩:=q1;rfl);have ho2:o2.oneCell'=true:=(by obtain⟨x,y,e,-,q1⟩:=hsr;cases e;obtain⟨a,c,rfl,-⟩:=q1;rfl);have HONE:=Hd (show(#[.int .i64 s.leaves,.int .i64 s.own,o1,o2]:Array Value).toList.all (·.oneCell')=true by simp only[List.all_cons,List.all_nil,ho1,ho2];rfl);clear hsr hb hon hba ho1 ho2;go_wp2_with (refine Aa rfl 25 (.tmp 2) (.tmp 16) rfl g #[.int .i64 s.leaves,.int .i64 s.own,o1,o2] rfl rfl 25 #[.int .i64 0,.int .i64 0,.slice none 0 0,.slice none 0 0] G2.out (by kernel_rfl) rfl HONE.out ?_);rintro w3 hblk hbl hoth hsize;have P3:=Hd hblk;have S3:=Hd (HON.out w3 (Only.storeQ hbl hoth));have B3:=Hd (HB2.out.trans (hbl w.heap.size (by rw[HG.out];exact lR)));clear hblk hbl hoth hsize;go_wp2_with fail;refine bodyPost_ret (v:=.tuple #[.agg #[.int .i64 s.leaves,.int .i64 s.own,o1,o2],.int .u8 0]) (Af Tryz.results22 _ _ g _ _ _ rfl P3.out Tryz.underlying25 rfl (by kernel_rfl)) rfl ?_;exact⟨⟨_,rfl,by rw[←HSE.out];exact S3.out⟩,B3.out⟩
 ·rw[if_neg h0]at hr;have h0b:((er:Int) !=0)=true:=(by rw[bne_iff_ne];omega);have HNS:=Hd (HERR.out (by rw[←HE.out];exact h0));obtain rfl:=hr;clear h0;go_wp2_with (refine Aa rfl 25 (.tmp 2) (.tmp 13) rfl g #[.int .i64 0,.int .i64 0,.slice none 0 0,.slice none 0 0] rfl rfl 25 #[.int .i64 0,.int .i64 0,.slice none 0 0,.slice none 0 0] (G1.out.alloc _) (by kernel_rfl) rfl rfl ?_);rintro w3 hblk hbl hoth hsize;have P3:=Hd hblk;have B3:=Hd ((HB1.out.alloc HB1.out.size _).trans (hbl w.heap.size (by rw[HG.out];exact lR)));clear hblk hbl hoth hsize;go_wp2_with fail;refine bodyPost_ret (v:=.tuple #[.agg #[.int .i64 0,.int .i64 0,.slice none 0 0,.slice none 0 0],.int .u8 (er:Nat)]) (Af Tryz.results22 _ _ g _ _ _ rfl P3.out Tryz.underlying25 rfl (by kernel_rfl)) rfl ?_;exact⟨⟨_,rfl,by rw[HNS.out];exact Zkg _⟩,B3.out⟩
end Go.Proofs.YtfofaiommeckbaaGreat
namespace Go.Proofs.YtfofaiommeckbaaGreat
open Go.RowKit WalkM WireM
theorem Zg7 (L:List Nat)(P:Nat→Bool):Ig L 1 P=match L with|[]=>(0,4,[],4)|b::M=>if P b=true then(b,0,M,0)else(0,3,M,0):=by
 unfold Ig;rw[Cz];cases L with
 |nil=>rfl
 |cons b M=>simp only[Zdf];rfl
theorem Tx (L:List Nat)(P:Nat→Bool):Ig L 4 P=if L.length<4 then(0,4,L,4)else if P (Hj L)=true then(Hj L,0,L.drop 4,0)else(0,3,L.drop 4,0):=by
 unfold Ig;have e:Eb L 0 4=if L.length<4 then([],L,4)else(L.take 4,L.drop 4,0):=by
  unfold Eb Bw;have hm:Zej 4=true:=(by decide);rw[if_pos hm,if_neg (by decide),if_neg (by decide)]
  by_cases h:L.length<4
  ·rw[if_pos h,if_pos (by omega)]
  ·rw[if_neg h,if_neg (by omega)];rfl
 rw[e]
 by_cases h:L.length<4
 ·rw[if_pos h,if_pos h];rfl
 ·rw[if_neg h,if_neg h];rfl
theorem Nx (only:Bool)(mk:Nat)(b:List Nat):ofT only mk b=ofS only mk b:=by
 unfold ofT ofS
 by_cases h:1048576<b.length
 ·rw[if_pos h,if_pos h]
 ·rw[if_neg h,if_neg h,Zg7];cases b with
  |nil=>rfl
  |cons c L=>
   simp only[beq_iff_eq]
   by_cases hc:c=mk
   ·rw[if_pos hc];simp only[ne_eq,not_true_eq_false,if_false,hc];unfold Zkc;rw[Tx]
    by_cases h4:L.length<4
    ·simp only[if_pos h4];rfl
    ·simp only[if_neg h4]
     by_cases hf:fits (Hj L)=true
     ·have hf2:¬fits (Hj L)=false:=(by rw[hf];decide);simp only[if_pos hf,if_neg hf2];unfold Zkb;rw[Tx,dE]
      by_cases h8:L.length<8
      ·simp only[if_pos h8,if_pos (show L.length-4<4 by omega)];rfl
      ·simp only[if_neg h8,if_neg (show¬L.length-4<4 by omega),List.drop_drop]
       by_cases hi:Hj (L.drop 4)<Hj L
       ·simp only[if_pos (show decide (Hj (L.drop 4)<Hj L)=true by simpa using hi),if_neg (show¬Hj L≤Hj (L.drop 4) by omega)];unfold Zka Ze8;simp only[ne_eq,not_true_eq_false,if_false]
        by_cases he:(rdP (aV (Hj L)) (Hj L-1) (L.drop 8)).er=0
        ·simp only[he,not_true_eq_false,if_false]
         by_cases hr:(rdP (aV (Hj L)) (Hj L-1) (L.drop 8)).rest=[]
         ·simp only[hr,not_true_eq_false,if_false,if_true]
         ·simp only[hr,not_false_eq_true,if_false,if_true];rfl
        ·simp only[he,not_false_eq_true,if_true]
       ·simp only[if_neg (show¬decide (Hj (L.drop 4)<Hj L)=true by simpa using hi),if_pos (show Hj L≤Hj (L.drop 4) by omega)];rfl
     ·have hf2:fits (Hj L)=false:=(by simpa using hf);simp only[if_neg hf,if_pos hf2];rfl
   ·rw[if_neg hc];simp only[ne_eq,hc,not_false_eq_true,if_true];rfl
theorem Zjd (v:Value)(L:List Nat)(mk:Nat)(only:Bool)(w:World)(h:Rd w v (bvs L))(hL:∀n∈L,n<256)(hl:L.length≤4000)(hm:mk<256)(hmk:only=decide (mk=2)):
  Calls Tryz.prog 23 #[v,.int .u8 (mk:Nat)] w (Zkk (ofS only mk L) w):=by
 have nb:∀M:List Nat,(∀n∈M,n<256)→Hj M<4294967296:=fun M hM=>by
  have h1:=Mr _ _ rfl fun n hn=>hM n (List.mem_of_mem_take (i:=4) hn);have h2:256^(M.take 4).length≤256^4:=aW (by omega) (by rw[List.length_take];omega);exact Nat.lt_of_lt_of_le h1 (dG h2 (by decide))
 cases L with
 |nil=>
  have no:∀ {P:Prop},5≤([]:List Nat).length→P:=fun hx=>absurd hx (by decide);have no9:∀ {P:Prop},9≤([]:List Nat).length→P:=fun hx=>absurd hx (by decide);have no0:∀ {P:Prop},0<([]:List Nat).length→P:=fun hx=>absurd hx (by decide);exact Yf v [] 0 mk 0 0 (If 1) only _ w h hl hmk hm (fun hx=>no0 hx) (by decide) (fun hx=>no hx) (fun hx=>no9 hx) (fun hx=>no9 hx) (fun hx=>no9 hx) (by decide) (by decide) (fun _=>rfl) (fun hx=>no0 hx) (fun hx=>no0 hx) (fun _ hx=>no hx) (fun _ hx=>no hx) (fun _ hx=>no9 hx) (fun _ hx=>no9 hx) (fun _ hx=>no9 hx) (fun _ hx=>no9 hx)
 |cons c M=>
  have hM:∀n∈M,n<256:=fun n hn=>hL n (List.mem_cons_of_mem _ hn);have hdr:∀k,(c::M).drop (k+1)=M.drop k:=fun k=>rfl;obtain⟨n,hn⟩:=eX (Hj M);obtain⟨i,hi⟩:=eX (Hj (M.drop 4));obtain⟨rd,hrd⟩:=eX (rdP (aV n) (n-1) (M.drop 8));have hcl:(c::M).length=M.length+1:=rfl;have hE:ofS only mk (c::M)=if c≠mk then(3,Ex)else if M.length<4 then(4,Ex)else if fits n=false then(3,Ex)else if M.length<8 then(4,Ex)else if n≤i then(3,Ex)else
    if rd.er≠0 then(rd.er,Ex)else if rd.rest≠[]then(5,Ex)else if Az ⟨n,i,rd.op,rd.sh⟩ only=true then(0,⟨n,i,rd.op,rd.sh⟩)else(3,Ex):=by
   rw[ofS,if_neg (by omega),hrd,hn,hi]
  have sfx:Suf rd.rest (c::M):=(by rw[hrd];exact(Zhv _ _ _).trans (Suf.drop (c::M) 9));have hnb:n<4294967296:=(by rw[hn];exact nb M hM);have hib:i<4294967296:=(by rw[hi];exact nb _ fun x hx=>hM x (gC hx));refine Yf v (c::M) c mk n i rd only _ w h hl hmk hm (fun _=>rfl) (hL c (List.mem_cons_self ..)) (fun h5 W hW=> ?_) (fun h9 W hW=> ?_) (fun h9 hf W hW=> ?_) (fun h9 hf hin he v' W hs=> ?_) hnb hib ?_ ?_ ?_ ?_ ?_ ?_ ?_ ?_ ?_
  ·have:=Pq v (c::M) 1 W (h.below hW lR) hL (by omega) (by omega);rw[hdr 0,List.drop_zero,←hn]at this;exact this
  ·have:=Pq v (c::M) 5 W (h.below hW lR) hL (by omega) (by omega);rw[hdr 4,←hi]at this;exact this
  ·have F:=Rl hf;have:=Zec v (c::M) hL (by omega) (aV n) (n-1) 9 W F.2.2.2.2 (by have:=F.1;omega) (by omega) (h.below hW lR);rw[hdr 8,←hrd]at this;have e:((n-1:Nat):Int)=(n:Int)-1:=(by have:=F.1;have:=eG (aV n);omega);rw[e]at this;exact this
  ·have F:=Rl hf;have hp:=eG (aV n);have G:=Zeg (k:=aV n) (x:=n-1) (n:=n) (i:=i) (L:=M.drop 8) (fun y hy=>hM y (gC hy)) (by rw[dE];omega) (by have:=F.1;omega) (by have:=F.1;omega) (by omega) (by omega) (by rw[←hrd];exact he);rw[←hrd]at G;have S:=Fw G.small;have sm:=G.small;unfold Fv at sm;simp only[bS,decide_eq_true_eq]at sm;refine Vf v' ⟨n,i,rd.op,rd.sh⟩ only W hs G.ok (by have:=S.1;simp only at this⊢;omega) (by have:=S.2;simp only at this⊢;omega) fun p hp2=> ?_;have q:=List.all_eq_true.1 sm.1.2 p hp2;unfold Cb at q;simp only[bS,decide_eq_true_eq]at q;omega
  ·intro h;rw[hcl]at h;omega
  ·intro _ e;rw[hE,if_pos e]
  ·intro _ e h4;rw[hE,if_neg (by omega),if_pos (by omega)]
  ·intro e h4 hf;rw[hE,if_neg (by omega),if_neg (by omega),if_pos hf]
  ·intro e h4 hf h9;rw[hE,if_neg (by omega),if_neg (by omega),if_neg (by rw[hf];decide),if_pos (by omega)]
  ·intro e h9 hf hin;rw[hE,if_neg (by omega),if_neg (by omega),if_neg (by rw[hf];decide),if_neg (by omega),if_pos hin]
  ·intro e h9 hf hin he;rw[hE,if_neg (by omega),if_neg (by omega),if_neg (by rw[hf];decide),if_neg (by omega),if_neg (by omega),if_pos he]
  ·intro e h9 hf hin he ht;have hne:rd.rest≠[]:=fun e=>(by rw[e]at ht;simp at ht);rw[hE,if_neg (by omega),if_neg (by omega),if_neg (by rw[hf];decide),if_neg (by omega),if_neg (by omega),if_neg (by omega),if_pos hne]
  ·intro e h9 hf hin he ht b hb;have hne:rd.rest=[]:=by
    have:=sfx.at.1;exact List.eq_nil_of_length_eq_zero (by omega)
   rw[hE,if_neg (by omega),if_neg (by omega),if_neg (by rw[hf];decide),if_neg (by omega),if_neg (by omega),if_neg (by omega),if_neg (by simp[hne]),hb]
open Go.Maps ShaM
theorem Zje:SparseOk Ex:=⟨by unfold Ex inI;decide,by unfold Ex inI;decide,fun p hp=>(by cases hp),fun p hp=>(by cases hp)⟩
theorem Zkh {only:Bool} {mk:Nat} {L:List Nat}(hL:∀y∈L,y<256)(hl:L.length≤4000):SparseOk (ofS only mk L).2∧(ofS only mk L).2.op.length≤5000∧(ofS only mk L).2.sh.length≤5000:=by
 by_cases h:(ofS only mk L).1=0
 ·have g:=(Yg (only:=only) (mk:=mk) hL hl (by rw[Nx];exact h)).1;rw[Nx]at g;have s:=Fw g.small;exact⟨g.ok,by omega,by omega⟩
 ·have e:=Zeh (only:=only) (mk:=mk) (L:=L) (by rw[Nx];exact h);rw[Nx]at e;rw[e];exact⟨Zje,aA _,aA _⟩
theorem Ny {w:World}(v:Value)(L:List Nat)(hL:∀n∈L,n<256)(h:Rd w v (bvs L)):
  Calls Tryz.prog 4 #[v] w fun e w'=>e=.returned (.bool true)∧Below w.heap.size w w':=by
 have HAL:=Hd (Zja w)
 by_cases hl:L.length≤4000
 ·have OF:=fun(W:World) (hw:Below w.heap.size w W)=>Zg6 v L W (h.below hw lR) hl hL;have RO:=fun(W:World) (hw:Below w.heap.size w W)=>Zjd v L 1 false W (h.below hw lR) hL hl (by decide) (by decide);rw[Nx]at OF;have OK:=Zkh (only:=false) (mk:=1) hL hl;have hk6:=Zk0 false 1 L;obtain⟨R,hR⟩:=eX (ofS false 1 L);rw[←hR]at OF RO OK hk6;unfold Zkk at RO;obtain⟨k,s⟩:=R;simp only at OF RO OK hk6;have hwk:IntKind.i64.wrap (k:Int)=(k:Int):=IntWalk.i64_in _ ⟨by omega,by omega⟩;have HSA:=Hd fun(a b:Array Value) (W:World) (h1:SparseR W (.agg a) s) (h2:SparseR W (.agg b) s)=>Zaa (.agg a) (.agg b) s s W h1 h2 OK.1 OK.1 (by omega) (by omega);rw[Vm]at HSA;have HOF:=Hd OF;have HRO:=Hd RO;obtain⟨lv,hlv⟩:=eX s.leaves;obtain⟨ow,how⟩:=eX s.own;obtain⟨no,hno⟩:=eX s.op.length;obtain⟨ns,hns⟩:=eX s.sh.length;have HOP:=Hd fun(W:World) (u:Value) (hs:SparseR W u s)=>(show∃a c a' c',u=.agg #[.int .i64 lv,.int .i64 ow,.slice a no c,.slice a' ns c']from by
   obtain⟨o,g,rfl,ho,hg⟩:=hs;obtain⟨oa,oc,rfl,-,-⟩:=ho.sl;obtain⟨ga,gc,rfl,-,-⟩:=hg.sl;exact⟨oa,oc,ga,gc,by rw[hlv,how,hno,hns]⟩)
  obtain⟨av,cap,rfl,-,-⟩:=id h;rw[bvs_len]at HOF HRO⊢;obtain⟨ln,hln⟩:=eX L.length;rw[←hln]at HOF HRO hl⊢;have h4:decide ((ln:Int)>4000)=false:=decide_eq_false (by omega);clear OF RO OK hR hlv how hno hns h hln hL;go_enter Tryz.func4,Tryz.ntmps4;go_wp2_with fail;refine HAL.out.mono ?_;rintro e w1 ⟨rfl,hb⟩;have HB1:=Hd hb;clear hb;go_wp2_with fail;refine(HOF.out w1 HB1.out).mono ?_;rintro e w2 ⟨⟨c,rfl,hs⟩,hb⟩;have HB2:=Hd (HB1.out.trans (hb.mono HB1.out.size));obtain⟨a1,c1,a2,c2,e1⟩:=HOP.out _ _ hs;cases e1;obtain⟨p,hp⟩:=eX w2.heap.size;obtain⟨w3,hw3⟩:=eX (w2.alloc (.cells #[.int .i64 lv,.int .i64 ow,.slice a1 no c1,.slice a2 ns c2] 25));have hba:Below w2.heap.size w2 w3:=(by rw[hw3];exact bR.alloc lR _);have HP3:=Hd (show Blk w3 p 25 #[.int .i64 lv,.int .i64 ow,.slice a1 no c1,.slice a2 ns c2] by rw[hw3,hp];exact Blk.new _ _ _);have HB3:=Hd (HB2.out.trans (hba.mono HB2.out.size));have HS3:=Hd (hs.below hba lR);have HW3:=Hd hw3;have HP:=Hd hp;clear hb hs hba hw3 hp;go_wp2_with fail;rw[←HW3.out,←HP.out];refine(HRO.out w3 HB3.out).mono ?_;rintro e w4 ⟨o',s',rfl,ho,hs',hb⟩;have hs:SparseR w4 (.agg #[.int .i64 s.leaves,.int .i64 s.own,o',s']) s:=⟨_,_,rfl,ho.spots,hs'.stubs⟩;have HB4:=Hd (HB3.out.trans (hb.mono HB3.out.size));have HP4:=Hd (HP3.out.below hb HP3.out.lt);have HS4:=Hd (HS3.out.below hb lR);obtain⟨a3,c3,a4,c4,e1⟩:=HOP.out _ _ hs;rw[e1]at hs⊢;clear e1 ho hs';obtain⟨q,hq⟩:=eX w4.heap.size;obtain⟨w5,hw5⟩:=eX (w4.alloc (.cells #[.int .i64 lv,.int .i64 ow,.slice a3 no c3,.slice a4 ns c4] 25));have hba:Below w4.heap.size w4 w5:=(by rw[hw5];exact bR.alloc lR _);have HQ5:=Hd (show Blk w5 q 25 #[.int .i64 lv,.int .i64 ow,.slice a3 no c3,.slice a4 ns c4] by rw[hw5,hq];exact Blk.new _ _ _);have HB5:=Hd (HB4.out.trans (hba.mono HB4.out.size));have HP5:=Hd (HP4.out.below hba HP4.out.lt);have HS5:=Hd (HS4.out.below hba lR);have HT5:=Hd (hs.below hba lR);have HW5:=Hd hw5;have HQ:=Hd hq;have x0:=HP5.out.cell 0;have x1:=HP5.out.cell 1;have x2:=HP5.out.cell 2;have x3:=HP5.out.cell 3;have y0:=HQ5.out.cell 0;have y1:=HQ5.out.cell 1;have y2:=HQ5.out.cell 2;have y3:=HQ5.out.cell 3;simp only[bK,bL,bM]at x0 x1 x2 x3 y0 y1 y2 y3;clear hb hs hba hq;have hkk:((k:Int)==(k:Int))=true:=(by rw[beq_iff_eq]);rw[hw5]at x0 x1 x2 x3 y0 y1 y2 y3;clear hw5;go_wp2_with fail;rw[←HW5.out];refine(HSA.out _ _ w5 HS5.out HT5.out).mono ?_;rintro e w6 ⟨rfl,hb⟩;have HB6:=Hd (HB5.out.trans (hb.mono HB5.out.size));clear hb;go_wp2_with fail;go_ret;exact⟨rfl,HB6.out⟩
 ·obtain⟨av,cap,rfl,-,-⟩:=id h;rw[bvs_len];obtain⟨ln,hln⟩:=eX L.length;rw[←hln]at hl⊢;have h4:decide ((ln:Int)>4000)=true:=decide_eq_true (by omega);clear h hln hL hl;go_enter Tryz.func4,Tryz.ntmps4;go_wp2_with fail;refine HAL.out.mono ?_;rintro e w1 ⟨rfl,hb⟩;have HB1:=Hd hb;clear hb;go_wp2_with fail;go_ret;exact⟨rfl,HB1.out⟩
end Go.Proofs.YtfofaiommeckbaaGreat
