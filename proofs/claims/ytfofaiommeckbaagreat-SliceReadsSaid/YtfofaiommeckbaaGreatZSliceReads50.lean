/- Plain: what is left of bytes that are read is their end. -/
import Derived.Test.YtfofaiommeckbaaGreatZSliceReadsB
import Derived.Test.YtfofaiommeckbaaGreatZSliceReads48
open List renaming drop_drop → gG, drop_length → gR, length_drop → dE, drop_of_length_le → gS, map_append → gT, length_append → aG, flatMap_append → fI, mem_cons → aE, not_mem_nil → eD, filterMap_cons → cH, filterMap_nil → cI, contains_cons → cJ, contains_nil → cK, getElem?_toArray → bK, getElem?_cons_zero → bL, mem_of_getElem? → gL, drop_eq_getElem_cons → gK, getD_eq_getElem?_getD → aH, getElem?_eq_getElem → aI, getElem?_cons_succ → bM
open Nat renaming zero_le → aA
set_option linter.unusedVariables false
set_option maxRecDepth 100000
set_option maxHeartbeats 40000000
namespace Go.Proofs.YtfofaiommeckbaaGreat
open Go.RowKit WalkM WireM
def Suf (R M:List Nat):Prop:=∃n,R=M.drop n
theorem Suf.refl (M:List Nat):Suf M M:=⟨0,rfl⟩
theorem Suf.trans {A B C:List Nat}(h:Suf A B)(k:Suf B C):Suf A C:=by
 obtain⟨n,rfl⟩:=h;obtain⟨m,rfl⟩:=k;exact⟨m+n,by rw[gG]⟩
theorem Suf.drop (M:List Nat)(n:Nat):Suf (M.drop n) M:=⟨n,rfl⟩
theorem Suf.nil (M:List Nat):Suf [] M:=⟨M.length,by rw[gR]⟩
theorem Suf.cons (b:Nat)(M:List Nat):Suf M (b::M):=⟨1,rfl⟩
theorem Suf.at {R M:List Nat}(h:Suf R M):R.length≤M.length∧M.drop (M.length-R.length)=R:=by
 obtain⟨n,rfl⟩:=h;rw[dE];refine⟨by omega,?_⟩
 by_cases c:n≤M.length
 ·rw[show M.length-(M.length-n)=n by omega]
 ·rw[show M.length-(M.length-n)=M.length by omega,gR,gS (by omega)]
theorem Yd (L:List Nat)(er:Nat)(n:Int):Suf (Bw L er n).2.1 L:=by
 unfold Bw
 split
 ·exact Suf.refl _
 ·split
  ·exact Suf.refl _
  ·split
   ·exact Suf.refl _
   ·exact Suf.drop _ _
theorem Zjb (L:List Nat)(er:Nat)(n:Int):Suf (Eb L er n).2.1 L:=Yd _ _ _
theorem Zaj (L:List Nat)(er:Nat):Suf (Bh L er).2.1 L:=by
 unfold Bh
 split
 ·exact Suf.refl _
 ·split
  ·exact Suf.refl _
  ·rename_i b M
   have hs:Suf M (b::M):=Suf.cons b M;unfold Oh
   split
   ·exact hs
   ·split
    ·exact hs
    ·split<;>exact(Suf.drop _ _).trans hs
theorem Hm (L:List Nat)(er:Nat):Suf (Bf L er).2.1 L:=by
 have h:=Zaj L er;unfold Bf
 split
 ·rename_i M e hm
  rw[hm]at h;exact h
 ·rename_i n M e hm
  rw[hm]at h;exact(Yd M e (n:Int)).trans h
theorem Zd9 (L:List Nat):Suf (Br L 0).2.2.1 L:=by
 unfold Br;simp only;have s1:=Hm L 0;generalize Bf L 0=r1 at s1⊢;have s2:=(Hm r1.2.1 r1.2.2).trans s1;generalize Bf r1.2.1 r1.2.2=r2 at s2⊢;have s3:=(Hm r2.2.1 r2.2.2).trans s2;generalize Bf r2.2.1 r2.2.2=r3 at s3⊢;have s4:=(Zjb r3.2.1 r3.2.2 1).trans s3;generalize Eb r3.2.1 r3.2.2 1=r4 at s4⊢;have s5:Suf (if Ct r4.1=3 then Bf r4.2.1 r4.2.2 else([],r4.2)).2.1 L:=by
  split
  ·exact(Hm _ _).trans s4
  ·exact s4
 generalize(if Ct r4.1=3 then Bf r4.2.1 r4.2.2 else([],r4.2))=r5 at s5⊢;have s6:=(Hm r5.2.1 r5.2.2).trans s5
 split
 ·exact s4
 ·split
  ·exact s4
  ·split
   ·exact s6
   ·split<;>exact s6
theorem Zg0 (L:List Nat):Suf (Ee L 0).2.2.1 L:=by
 unfold Ee;simp only;have s1:=Hm L 0;generalize Bf L 0=r1 at s1⊢;have s2:=(Hm r1.2.1 r1.2.2).trans s1;generalize Bf r1.2.1 r1.2.2=r2 at s2⊢;have s3:=(Hm r2.2.1 r2.2.2).trans s2;generalize Bf r2.2.1 r2.2.2=r3 at s3⊢
 split
 ·exact s3
 ·split<;>exact s3
theorem Tv (L:List Nat):Suf (Av L 0).2.2.1 L:=by
 cases L with
 |nil=>unfold Av;rw[show Eb [] 0 1=([],[],4)from Cz []];exact Suf.refl _
 |cons k M=>
  have s0:=Suf.cons k M;unfold Av;rw[show Eb (k::M) 0 1=([k],M,0)from Cz (k::M)];simp only;rw[if_neg (by decide)];have s1:=(Zd9 M).trans s0;have s2:=(Zg0 M).trans s0
  split
  ·exact s0
  ·split
   ·split<;>exact s1
   ·split
    ·split<;>exact s2
    ·exact s0
theorem Zea {x:Nat} {L:List Nat} {K:NodeD→List Nat→RdR}(hK:∀d R,Suf R L→Suf (K d R).rest L):Suf (Rm x L K).rest L:=by
 unfold Rm;cases L with
 |nil=>exact Suf.refl _
 |cons b M=>
  have s0:=Suf.cons b M;simp only
  split
  ·exact Suf.nil _
  ·split
   ·split
    ·exact Suf.nil _
    ·exact(Suf.drop M 32).trans s0
   ·unfold Jv
    split
    ·exact Suf.nil _
    ·split
     ·exact Suf.nil _
     ·exact hK _ _ ((Tv M).trans s0)
theorem Zhv:∀k x (L:List Nat),Suf (rdP k x L).rest L:=by
 intro k
 induction k with
 |zero=>intro x L;unfold rdP;exact Zea fun d R h=>h
 |succ k ih=>
  intro x L;unfold rdP;refine Zea fun d R h=> ?_;unfold Ll
  split
  ·exact Suf.nil _
  ·split
   ·exact Suf.nil _
   ·exact(ih _ _).trans ((ih _ _).trans h)
theorem Bp {fn:Func} {t u v x:Tmp}(h:fn.results=#[.tmp t,.tmp u,.tmp v,.tmp x])(tmps:Array Value)(P:Program)(w:World):
  (results fn tmps).run P w=.ok (.tuple #[tmps.getD t undef,tmps.getD u undef,tmps.getD v undef,tmps.getD x undef]) w:=by
 simp[results,h]
theorem NodeC.cells10 {w:World} {d:NodeD} {c:Array Value}(h:NodeC w d c):∃f1 f2 f3 f4 f5 f6 f7 f8 f9,c=#[.int .u8 (d.kind:Nat),f1,f2,f3,f4,f5,f6,f7,f8,f9]:=by
 obtain⟨a1,c1,a2,c2,a3,c3,a4,c4,a5,c5,b1,e1,b2,e2,b3,e3,rfl,_⟩:=h;exact⟨_,_,_,_,_,_,_,_,_,rfl⟩
theorem OwnK.one {w:World} {B g k:Nat} {e:TypeId} {cs:Array Value}(h:Blk w g e cs)(hB:B≤g)(hk:cs.size=k):OwnK w B e k (.slice (some ⟨g,0,none⟩) 1 1) 1 cs.toList:=by
 subst hk;refine⟨by simp,.inr ⟨g,1,cs,rfl,hB,h,lR,by unfold maxLen;omega,by simp,?_⟩⟩;rw[List.take_of_length_le (by simp)]
def SpU (wc:World)(D:Nat)(w:World)(B:Nat)(v:Value)(l:List (Int×NodeD)):Prop:=
 ∃T:List ((Int×NodeD)×Array Value),T.map (·.1)=l∧OwnK w B 87 11 v l.length (T.flatMap fun t=> .int .i64 t.1.1::t.2.toList)∧∀t∈T,NodeC wc t.1.2 t.2∧LateNew D t.2
def StU (wc w:World)(B:Nat)(v:Value)(l:List (Int×List Nat)):Prop:=
 ∃T:List ((Int×List Nat)×Value),T.map (·.1)=l∧OwnK w B 89 2 v l.length (T.flatMap fun t=>[.int .i64 t.1.1,t.2])∧∀t∈T,Rd wc t.2 (bvs t.1.2)
theorem SpT.u {w:World} {B:Nat} {v:Value} {l:List (Int×NodeD)}(h:SpT w B v l):SpU w B w B v l:=h
theorem StT.u {w:World} {B:Nat} {v:Value} {l:List (Int×List Nat)}(h:StT w B v l):StU w w B v l:=h
theorem SpU.below {wc w w':World} {B B' D:Nat} {v:Value} {l:List (Int×NodeD)}(h:SpU wc D w B v l)(hb:Below B' w w')(hB:w.heap.size≤B'):SpU wc D w' B v l:=by
 obtain⟨T,h1,h2,h3⟩:=h;exact⟨T,h1,h2.below hb hB,h3⟩
theorem StU.below {wc w w':World} {B B':Nat} {v:Value} {l:List (Int×List Nat)}(h:StU wc w B v l)(hb:Below B' w w')(hB:w.heap.size≤B'):StU wc w' B v l:=by
 obtain⟨T,h1,h2,h3⟩:=h;exact⟨T,h1,h2.below hb hB,h3⟩
theorem SpU.t {wc w:World} {B B' D:Nat} {v:Value} {l:List (Int×NodeD)}(h:SpU wc D w B v l)(hb:Below wc.heap.size wc w)(hB:B'≤B)(hD:B'≤D):SpT w B' v l:=by
 obtain⟨T,h1,h2,h3⟩:=h;exact⟨T,h1,h2.mono hB,fun t ht=>⟨(h3 t ht).1.below hb lR,(h3 t ht).2.mono hD⟩⟩
theorem StU.t {wc w:World} {B B':Nat} {v:Value} {l:List (Int×List Nat)}(h:StU wc w B v l)(hb:Below wc.heap.size wc w)(hB:B'≤B):StT w B' v l:=by
 obtain⟨T,h1,h2,h3⟩:=h;exact⟨T,h1,h2.mono hB,fun t ht=>(h3 t ht).below hb lR⟩
theorem Zke {w:World} {e:TypeId} {k:Nat}:OwnK (w.alloc (.cells #[] e)) w.heap.size e k (.slice (some ⟨w.heap.size,0,none⟩) 0 0) 0 []:=
 ⟨by simp,.inr ⟨w.heap.size,0,#[],rfl,lR,heap_alloc_new w _,lR,aA _,by simp,by simp⟩⟩
theorem SpU.lit {wc w:World} {D:Nat}:SpU wc D (w.alloc (.cells #[] 87)) w.heap.size (.slice (some ⟨w.heap.size,0,none⟩) 0 0) []:=⟨[],rfl,Zke,fun t ht=>by simp at ht⟩
theorem StU.lit {wc w:World}:StU wc (w.alloc (.cells #[] 89)) w.heap.size (.slice (some ⟨w.heap.size,0,none⟩) 0 0) []:=⟨[],rfl,Zke,fun t ht=>by simp at ht⟩
theorem Hn {wc w:World} {D:Nat} {ops:Array Oper} {rest:List Oper} {o:Oper} {a:Act} {Q:Exit→Act→World→Prop} (hgd:o.guard=none) (s x:Operand)
  (ho:o.op=.call {callee:=.builtin .append,args:=#[s,x],argTypes:=#[22,22]})
  (B:Nat) (v:Value) (l:List (Int×NodeD)) (hs:a.eval s=v) (hown:SpU wc D w B v l) (r:Value) (B':Nat) (m:List (Int×NodeD)) (hx:a.eval x=r) (hr:SpU wc D w B' r m) (hn:l.length+m.length<137438953472) (hB:B≤w.heap.size)
  (h:∀v' w',SpU wc D w' B v' (l++m)→Below B w w'→wpList Tryz.prog ops Q rest (a.put o.dst v') w'):wpList Tryz.prog ops Q (o::rest) a w:=by
 obtain⟨T,h1,h2,h3⟩:=hown;obtain⟨T',k1,k2,k3⟩:=hr;refine Nv hgd s x 22 ho B 87 _ 11 _ Zho v _ _ hs h2 r B' _ _ hx k2 (fun u hu=> ?_) hn hB fun v' w' hv hb=>h v' w' ⟨T++T',by rw[gT,h1,k1],by rw[aG,fI];exact hv,fun t ht=>(List.mem_append.1 ht).elim (h3 t) (k3 t)⟩ hb;obtain⟨t,ht,hu⟩:=List.mem_flatMap.1 hu;rcases List.mem_cons.1 hu with rfl|hu
 ·rfl
 ·exact List.all_eq_true.1 (k3 t ht).1.oneL u hu
theorem Lg {wc w:World} {ops:Array Oper} {rest:List Oper} {o:Oper} {a:Act} {Q:Exit→Act→World→Prop} (hgd:o.guard=none) (s x:Operand)
  (ho:o.op=.call {callee:=.builtin .append,args:=#[s,x],argTypes:=#[23,23]})
  (B:Nat) (v:Value) (l:List (Int×List Nat)) (hs:a.eval s=v) (hown:StU wc w B v l) (r:Value) (B':Nat) (m:List (Int×List Nat)) (hx:a.eval x=r) (hr:StU wc w B' r m) (hn:l.length+m.length<137438953472) (hB:B≤w.heap.size)
  (h:∀v' w',StU wc w' B v' (l++m)→Below B w w'→wpList Tryz.prog ops Q rest (a.put o.dst v') w'):wpList Tryz.prog ops Q (o::rest) a w:=by
 obtain⟨T,h1,h2,h3⟩:=hown;obtain⟨T',k1,k2,k3⟩:=hr;refine Nv hgd s x 23 ho B 89 _ 2 _ Zhp v _ _ hs h2 r B' _ _ hx k2 (fun u hu=> ?_) hn hB fun v' w' hv hb=>h v' w' ⟨T++T',by rw[gT,h1,k1],by rw[aG,fI];exact hv,fun t ht=>(List.mem_append.1 ht).elim (h3 t) (k3 t)⟩ hb;obtain⟨t,ht,hu⟩:=List.mem_flatMap.1 hu;simp only[aE,eD,or_false]at hu;rcases hu with rfl|rfl
 ·rfl
 ·obtain⟨a,c,e,-⟩:=k3 t ht;rw[e];rfl
theorem Pp (v:Value) (L hx:List Nat) (p x fl par en nn xl xr:Nat) (dn:NodeD) (rl rr r:RdR) (w:World) (h:Rd w v (bvs L)) (hl:L.length≤1000000000) (hp:p≤L.length) (hx2:x≤131070) (hpar:x%2=par)
  (hk:p<L.length→(bvs L)[p]? =some (.int .u8 (fl:Nat))) (hf:fl<256) (hhx:hx=(L.drop (p+1)).take 32)
  (CT:p<L.length→fl=1→∀W,Below w.heap.size w W→Calls Tryz.prog 128 #[v,.int .i64 ((p+1:Nat):Int)] W (Zj8 W (en,dn,nn)))
  (CK:par=1→∀W,Calls Tryz.prog 100 #[.int .i64 (x:Nat)] W fun e W'=>e=.returned (.tuple #[.int .i64 (xl:Nat),.int .i64 (xr:Nat)])∧Below W.heap.size W W')
  (CL:p<L.length→fl=1→en=0→par=1→∀W,Below w.heap.size w W→Calls Tryz.prog 70 #[v,.int .i64 (nn:Nat),.int .i64 (xl:Nat)] W (Zgs L rl W))
  (CR:p<L.length→fl=1→en=0→par=1→rl.er=0→∀W,Below w.heap.size w W→Calls Tryz.prog 70 #[v,.int .i64 ((L.length-rl.rest.length:Nat):Int),.int .i64 (xr:Nat)] W (Zgs L rr W))
  (hkd:dn.kind<256) (BL:rl.er=0→rl.op.length≤1000000000∧rl.sh.length≤1000000000) (BR:rr.er=0→rr.op.length≤1000000000∧rr.sh.length≤1000000000)
  (X4:L.length≤p→r=If 4) (X3:p<L.length→1<fl→r=If 3)
  (XS:p<L.length→fl=0→L.length-p-1<32→r=If 4) (X0:p<L.length→fl=0→¬(L.length-p-1<32)→∃R,r=⟨0,[],[((x:Int),hx)],R⟩∧L.length-R.length=p+33)
  (XE:p<L.length→fl=1→en≠0→r=If en) (XK:p<L.length→fl=1→en=0→(par=0∧dn.kind=2∨par=1∧dn.kind=1)→r=If 3)
  (XA:p<L.length→fl=1→en=0→par=0→dn.kind≠2→∃R,r=⟨0,[((x:Int),dn)],[],R⟩∧nn=L.length-R.length)
  (XL:p<L.length→fl=1→en=0→par=1→dn.kind≠1→rl.er≠0→r=If rl.er) (XR:p<L.length→fl=1→en=0→par=1→dn.kind≠1→rl.er=0→rr.er≠0→r=If rr.er)
  (XB:p<L.length→fl=1→en=0→par=1→dn.kind≠1→rl.er=0→rr.er=0→r=⟨0,rl.op++((x:Int),dn)::rr.op,rl.sh++rr.sh,rr.rest⟩):
  Calls Tryz.prog 70 #[v,.int .i64 (p:Nat),.int .i64 (x:Nat)] w (Zgs L r w):=by
 obtain⟨av,cap,rfl,-,-⟩:=id h;rw[bvs_len]at h CT CL CR⊢;have HSLI:=Hd fun(hq:p+33≤L.length)=>Ts (T:=28) h (by kernel_rfl) (fun w=>by kernel_rfl) (k:=p+1) (e:=p+33) (by omega) (by rw[bvs_len];exact hq);obtain⟨ln,hln⟩:=eX L.length;rw[←hln]at h HSLI hl hp CT CL CR hk X4 X3 XS X0 XE XK XA XL XR XB⊢;obtain⟨S,hS⟩:=eX (Zgs L r w);rw[←hS];have HS:=Hd (show∀(e:Ending) (w':World) {o s:Value} {nx:Int} {k:Nat},e=.returned (.tuple #[o,s,.int .i64 nx,.int .i64 (k:Nat)])→r.er=k→(k=0→nx=((ln-r.rest.length:Nat):Int))→SpT w' w.heap.size o r.op→StT w' w.heap.size s r.sh→Below w.heap.size w w'→S e w' from by
  rintro e w' o s nx k rfl h0 h1 h2 h3 h4;subst h0;rw[hS];exact⟨o,s,nx,rfl,fun h=>by rw[←hln];exact h1 h,h2,h3,h4⟩)
 have HNO:=Hd (show∀(e:Ending) (w':World) {nx:Int} {k:Nat},e=.returned (.tuple #[.slice none 0 0,.slice none 0 0,.int .i64 nx,.int .i64 (k:Nat)])→k≠0→r=If k→Below w.heap.size w w'→S e w' from by
  rintro e w' nx k he h0 h1 h2;refine HS.out e w' he (by rw[h1];rfl) (fun h=>absurd h h0) (by rw[h1];exact SpT.nil _ _) (by rw[h1];exact StT.nil _ _) h2)
 have HRD:=Hd h;have HCT:=Hd CT;have HCK:=Hd CK;have HCL:=Hd CL;have HCR:=Hd CR;have HBL:=Hd BL;have HBR:=Hd BR;have HX4:=Hd X4;have HX3:=Hd X3;have HXS:=Hd XS;have HX0:=Hd X0;have HXE:=Hd XE;have HXK:=Hd XK;have HXA:=Hd XA;have HXL:=Hd XL;have HXR:=Hd XR;have HXB:=Hd XB;have HSB:=Hd hk;have HLN:=Hd hln;have HHX:=Hd hhx;have HPAR:=Hd hpar;have HTM:=Hd (show Int.tmod (x:Int) 2=(par:Int) by rw[Int.tmod_eq_emod_of_nonneg (by omega)];omega);clear h hk CT CK CL CR BL BR X4 X3 XS X0 XE XK XA XL XR XB hS hln hhx hpar
 by_cases h2:p<ln
 ·have HN:=Hd h2;have hd1:decide ((p:Int)≥(ln:Int))=false:=decide_eq_false (by omega);have hd2:decide ((ln:Int)≤(p:Int))=false:=decide_eq_false (by omega);have hd3:decide (ln≤p)=false:=decide_eq_false (by omega);obtain⟨vb,vo,rfl,hvb,hc0⟩:=HRD.out.get (HSB.out h2)
  by_cases hf1:1<fl
  ·have hg1:decide ((fl:Int)>1)=true:=decide_eq_true (by omega);have HX:=Hd (HX3.out h2 hf1);clear hf1 h2;go_enter Tryz.func70,Tryz.ntmps70;go_wp2_with fail;refine bodyPost_ret (Bp rfl _ _ _) rfl ?_;exact HNO.out _ _ rfl (by decide) HX.out bR
  ·have hg1:decide ((fl:Int)>1)=false:=decide_eq_false (by omega)
   by_cases hf0:fl=0
   ·have hq:((fl:Int)==0)=true:=(by rw[beq_iff_eq];omega);have HF:=Hd hf0;clear hf1 hf0 h2
    by_cases hs:ln-p-1<32
    ·have HX:=Hd (HXS.out HN.out HF.out hs);have e1:decide ((ln:Int)-(p:Int)-1<32)=true:=decide_eq_true (by have:=HN.out;omega);clear hs;go_enter Tryz.func70,Tryz.ntmps70;go_wp2_with fail;refine bodyPost_ret (Bp rfl _ _ _) rfl ?_;exact HNO.out _ _ rfl (by decide) HX.out bR
    ·obtain⟨R,hR,hn⟩:=HX0.out HN.out HF.out hs;have HR:=Hd hR;have HNN:=Hd hn;have HPL:=Hd (show p+33≤ln by have:=HN.out;omega);obtain⟨sa,sc,hsl,hsr⟩:=HSLI.out HPL.out;have HSL:=Hd (show∀w',(Instr.sliceAt 28 (.slice (some ⟨vb,vo,none⟩) ln cap) (some (.int .i64 ((p:Int)+1))) (some (.int .i64 ((p:Int)+33))) none).run Tryz.prog w'=.ok (.slice sa 32 sc) w' from fun w'=>by
      have:=hsl w';rw[show p+33-(p+1)=32 by omega]at this;exact this)
     have HSR:=Hd (show∀w',Rd w' (.slice (some ⟨vb,vo,none⟩) ln cap) (bvs L)→Rd w' (.slice sa 32 sc) (bvs hx)from fun w' hw=>by
      have:=hsr w' hw;rw[show p+33-(p+1)=32 by omega]at this;rw[HHX.out];simpa [bvs,List.map_take,List.map_drop]using this)
     have e1:decide ((ln:Int)-(p:Int)-1<32)=false:=decide_eq_false (by have:=HPL.out;omega);clear hs hR hn hsl hsr;go_enter Tryz.func70,Tryz.ntmps70;go_wp2_with fail;clear e1;refine Ax [fun v _=>v=.int .i64 (x:Nat),fun v _=>v=.slice (some ⟨vb,vo,none⟩) ln cap,fun v _=>v=.int .i64 (p:Nat),fun v _=>v=.int .i64 ((p:Int)+1),fun v _=>v=.int .i64 (p:Nat),fun v _=>v=.int .i64 ((p:Int)+33),fun v _=>v=.slice sa 32 sc,fun v _=>v=.agg #[.int .i64 (x:Nat),.slice sa 32 sc],fun v w'=>∃g,v=.slice (some ⟨g,0,none⟩) 1 1∧w.heap.size≤g∧Blk w' g 89 #[.int .i64 (x:Nat),.slice sa 32 sc],fun v _=>v=.int .i64 (p:Nat),fun v _=>v=.int .i64 ((p:Int)+33),fun v _=>v=.slice none 0 0,fun v w'=>∃g,v=.slice (some ⟨g,0,none⟩) 1 1∧w.heap.size≤g∧Blk w' g 89 #[.int .i64 (x:Nat),.slice sa 32 sc],fun v _=>v=.int .i64 ((p:Int)+33),fun v _=>v=.int .i64 0]
      [true,true,true,true,true,true,true,true,true,true,true,true,true,true,true] (fun x=>Below w.heap.size w x) (fun x y=>Below x.heap.size x y) none (by kernel_rfl) ?_ (⟨rfl,rfl,rfl,lR,fun _ _=>rfl⟩) (fun x y _ h=>h) (fun x y hx hs=>hx.trans (hs.mono hx.size)) (by kernel_rfl) (by kernel_rfl) ?_ ?_
     ·exact Ad (fun _ _ _ h _ _=>h) (Ad (fun _ _ _ h _ _=>h) (Ad (fun _ _ _ h _ _=>h) (Ad (fun _ _ _ h _ _=>h) (Ad (fun _ _ _ h _ _=>h) (Ad (fun _ _ _ h _ _=>h) (Ad (fun _ _ _ h _ _=>h) (Ad (fun _ _ _ h _ _=>h) (Ad (fun v x y h hi hs=>let⟨g,e,hg,k⟩:=h;⟨g,e,hg,k.below hs k.lt⟩) (Ad (fun _ _ _ h _ _=>h) (Ad (fun _ _ _ h _ _=>h) (Ad (fun _ _ _ h _ _=>h) (Ad (fun v x y h hi hs=>let⟨g,e,hg,k⟩:=h;⟨g,e,hg,k.below hs k.lt⟩) (Ad (fun _ _ _ h _ _=>h) (Ad (fun _ _ _ h _ _=>h) (Aj)))))))))))))))
     ·refine .cons (Ae ?_) (.cons (Ae ?_) (.cons (Ae ?_) (.cons (Ae ?_) (.cons (Ae ?_) (.cons (Ae ?_) (.cons (Ae ?_) (.cons (Ae ?_) (.cons (Ae ?_) (.cons (Ae ?_) (.cons (Ae ?_) (.cons (Ae ?_) (.cons (Ae ?_) (.cons (Ae ?_) (.cons (Ae ?_) (.nil)))))))))))))))
      ·intro a wx hbx hq ho hf;have hbx:Below w.heap.size w wx:=hbx;have hbq:Below w.heap.size w wx:=hq (by kernel_rfl);clear hq;refine⟨rfl,?_⟩;intro K hK;have e0:a.tmps[2]?.getD undef=.int .i64 (x:Nat):=ho 2 (by kernel_rfl);go_simp;exact hK _ _ rfl (Ab rfl bR)
      ·intro a wx hbx hq ho hf;have hbx:Below w.heap.size w wx:=hbx;have hbq:Below w.heap.size w wx:=hq (by kernel_rfl);clear hq;refine⟨rfl,?_⟩;intro K hK;have e0:a.tmps[0]?.getD undef=.slice (some ⟨vb,vo,none⟩) ln cap:=ho 0 (by kernel_rfl);go_simp;exact hK _ _ rfl (Ab rfl bR)
      ·intro a wx hbx hq ho hf;have hbx:Below w.heap.size w wx:=hbx;have hbq:Below w.heap.size w wx:=hq (by kernel_rfl);clear hq;refine⟨rfl,?_⟩;intro K hK;have e0:a.tmps[1]?.getD undef=.int .i64 (p:Nat):=ho 1 (by kernel_rfl);go_simp;exact hK _ _ rfl (Ab rfl bR)
      ·intro a wx hbx hq ho hf;have hbx:Below w.heap.size w wx:=hbx;have hbq:Below w.heap.size w wx:=hq (by kernel_rfl);clear hq;refine⟨rfl,?_⟩;intro K hK;have e0:a.tmps[45]?.getD undef=.int .i64 (p:Nat):=hf.1;have hpl:=HPL.out;have gw1:IntKind.i64.wrap (((p:Int)+1))=((p:Int)+1):=(by rw[IntKind.wrap_i64];omega);have gw2:(p:Int)+1=((p:Int)+1):=(by omega);have gw3:IntKind.i64.wrap ((p:Int)+1)=((p:Int)+1):=(by rw[gw2];exact gw1);go_simp;exact hK _ _ rfl (Ab rfl bR)
      ·intro a wx hbx hq ho hf;have hbx:Below w.heap.size w wx:=hbx;have hbq:Below w.heap.size w wx:=hq (by kernel_rfl);clear hq;refine⟨rfl,?_⟩;intro K hK;have e0:a.tmps[1]?.getD undef=.int .i64 (p:Nat):=ho 1 (by kernel_rfl);go_simp;exact hK _ _ rfl (Ab rfl bR)
      ·intro a wx hbx hq ho hf;have hbx:Below w.heap.size w wx:=hbx;have hbq:Below w.heap.size w wx:=hq (by kernel_rfl);clear hq;refine⟨rfl,?_⟩;intro K hK;have e0:a.tmps[47]?.getD undef=.int .i64 (p:Nat):=hf.1;have hpl:=HPL.out;have gw1:IntKind.i64.wrap (((p:Int)+33))=((p:Int)+33):=(by rw[IntKind.wrap_i64];omega);have gw2:(p:Int)+33=((p:Int)+33):=(by omega);have gw3:IntKind.i64.wrap ((p:Int)+33)=((p:Int)+33):=(by rw[gw2];exact gw1);go_simp;exact hK _ _ rfl (Ab rfl bR)
      ·intro a wx hbx hq ho hf;have hbx:Below w.heap.size w wx:=hbx;have hbq:Below w.heap.size w wx:=hq (by kernel_rfl);clear hq;refine⟨rfl,?_⟩;intro K hK;have e0:a.tmps[44]?.getD undef=.slice (some ⟨vb,vo,none⟩) ln cap:=hf.1;have e1:a.tmps[46]?.getD undef=.int .i64 ((p:Int)+1):=hf.2.1;have e2:a.tmps[48]?.getD undef=.int .i64 ((p:Int)+33):=hf.2.2.1;have hsl:=HSL.out;go_simp;exact hK _ _ rfl (Ab rfl bR)
      ·intro a wx hbx hq ho hf;have hbx:Below w.heap.size w wx:=hbx;have hbq:Below w.heap.size w wx:=hq (by kernel_rfl);clear hq;refine⟨rfl,?_⟩;intro K hK;have e0:a.tmps[43]?.getD undef=.int .i64 (x:Nat):=hf.1;have e1:a.tmps[49]?.getD undef=.slice sa 32 sc:=hf.2.1;go_simp;exact hK _ _ rfl (Ab rfl bR)
      ·intro a wx hbx hq ho hf;have hbx:Below w.heap.size w wx:=hbx;have hbq:Below w.heap.size w wx:=hq (by kernel_rfl);clear hq;refine⟨rfl,?_⟩;intro K hK;have e0:a.tmps[50]?.getD undef=.agg #[.int .i64 (x:Nat),.slice sa 32 sc]:=hf.1;go_simp;exact hK _ _ ⟨_,rfl,hbx.size,Blk.new _ _ _⟩ (Ab rfl (bR.alloc lR _))
      ·intro a wx hbx hq ho hf;have hbx:Below w.heap.size w wx:=hbx;have hbq:Below w.heap.size w wx:=hq (by kernel_rfl);clear hq;refine⟨rfl,?_⟩;intro K hK;have e0:a.tmps[1]?.getD undef=.int .i64 (p:Nat):=ho 1 (by kernel_rfl);go_simp;exact hK _ _ rfl (Ab rfl bR)
      ·intro a wx hbx hq ho hf;have hbx:Below w.heap.size w wx:=hbx;have hbq:Below w.heap.size w wx:=hq (by kernel_rfl);clear hq;refine⟨rfl,?_⟩;intro K hK;have e0:a.tmps[52]?.getD undef=.int .i64 (p:Nat):=hf.1;have hpl:=HPL.out;have gw1:IntKind.i64.wrap (((p:Int)+33))=((p:Int)+33):=(by rw[IntKind.wrap_i64];omega);have gw2:(p:Int)+33=((p:Int)+33):=(by omega);have gw3:IntKind.i64.wrap ((p:Int)+33)=((p:Int)+33):=(by rw[gw2];exact gw1);go_simp;exact hK _ _ rfl (Ab rfl bR)
      ·intro a wx hbx hq ho hf;have hbx:Below w.heap.size w wx:=hbx;have hbq:Below w.heap.size w wx:=hq (by kernel_rfl);clear hq;refine⟨rfl,?_⟩;intro K hK
       go_simp;exact hK _ _ rfl (Ab rfl bR)
      ·intro a wx hbx hq ho hf;have hbx:Below w.heap.size w wx:=hbx;have hbq:Below w.heap.size w wx:=hq (by kernel_rfl);clear hq;refine⟨rfl,?_⟩;intro K hK;have o0:∃g,(a.tmps[51]?.getD undef)=.slice (some ⟨g,0,none⟩) 1 1∧w.heap.size≤g∧Blk wx g 89 #[.int .i64 (x:Nat),.slice sa 32 sc]:=hf.1;obtain⟨v0,hv0⟩:=eX (a.tmps[51]?.getD undef);rw[←hv0]at o0;have e0:=hv0.symm;clear hv0;go_simp;exact hK _ _ o0 (Ab rfl bR)
      ·intro a wx hbx hq ho hf;have hbx:Below w.heap.size w wx:=hbx;have hbq:Below w.heap.size w wx:=hq (by kernel_rfl);clear hq;refine⟨rfl,?_⟩;intro K hK;have e0:a.tmps[53]?.getD undef=.int .i64 ((p:Int)+33):=hf.1;go_simp;exact hK _ _ rfl (Ab rfl bR)
      ·intro a wx hbx hq ho hf;have hbx:Below w.heap.size w wx:=hbx;have hbq:Below w.heap.size w wx:=hq (by kernel_rfl);clear hq;refine⟨rfl,?_⟩;intro K hK
       go_simp;exact hK _ _ rfl (Ab rfl bR)
     ·rintro f w9 hb9 hfin;have hb9:Below w.heap.size w w9:=hb9;have S6:f 6=.slice none 0 0:=hfin.2.2.2.2.2.2.2.2.2.2.2.1;have S7:∃g,(f 7)=.slice (some ⟨g,0,none⟩) 1 1∧w.heap.size≤g∧Blk w9 g 89 #[.int .i64 (x:Nat),.slice sa 32 sc]:=hfin.2.2.2.2.2.2.2.2.2.2.2.2.1;have S8:f 8=.int .i64 ((p:Int)+33):=hfin.2.2.2.2.2.2.2.2.2.2.2.2.2.1;have S9:f 9=.int .i64 0:=hfin.2.2.2.2.2.2.2.2.2.2.2.2.2.2.1;clear hfin;simp only[Aw,Bl,Ga,cH,cI,cJ,cK,Nat.reduceBEq,Nat.reduceAdd,Bool.or_false,Bool.or_true,cond_true,cond_false];rw[S6];clear S6;obtain⟨u7,hu7⟩:=eX (f 7);rw[←hu7]at S7⊢;clear hu7;rw[S8];clear S8;rw[S9];clear S9
      obtain⟨g,rfl,hg,hblk⟩:=S7;go_wp2_with fail;refine bodyPost_ret (Bp rfl _ _ _) rfl ?_;refine HS.out _ _ rfl (by rw[HR.out]) (fun _=>by rw[HR.out];have:=HNN.out;simp only;omega) (by rw[HR.out];exact SpT.nil _ _) ?_ hb9;rw[HR.out];exact⟨[(((x:Int),hx),.slice sa 32 sc)],rfl,OwnK.one hblk hg rfl,fun t ht=>by
       simp only[aE,eD,or_false]at ht;subst ht;exact HSR.out _ (HRD.out.below hb9 lR)⟩
   ·have hq:((fl:Int)==0)=false:=(by rw[beq_eq_false_iff_ne];omega);have HF:=Hd (show fl=1 by omega);clear hf1 hf0 h2;have HCT2:=Hd (HCT.out HN.out HF.out);go_enter Tryz.func70,Tryz.ntmps70;go_wp2_with fail;rw[show((p:Int)+1)=((p+1:Nat):Int) by omega];refine(HCT2.out w bR).mono ?_;rintro e w1 ⟨c,nx,rfl,hnx,hnc,hlate,hb⟩;have hone:=hnc.oneL;obtain⟨f1,f2,f3,f4,f5,f6,f7,f8,f9,rfl⟩:=hnc.cells10;obtain⟨kd,hkd2⟩:=eX dn.kind;rw[←hkd2]at hnc hone hkd⊢;have HKD:=Hd hkd2;have HNC:=Hd hnc;have HLATE:=Hd hlate;have HONE:=Hd hone;have HNX:=Hd hnx;have B1:=Hd hb;clear hnc hone hb hlate hkd2 hd1 hd2 hd3 hc0 hvb;simp only at HNX;clear hnx;go_wp2_with (refine Aa rfl 52 (.tmp 10) (.tmp 59) rfl w1.heap.size #[.int .u8 (kd:Nat),f1,f2,f3,f4,f5,f6,f7,f8,f9] rfl rfl 52 #[.int .u8 0,.slice none 0 0,.slice none 0 0,.slice none 0 0,.int .u8 0,.slice none 0 0,.slice none 0 0,.slice none 0 0,.slice none 0 0,.slice none 0 0] (Blk.new _ _ _) (by kernel_rfl) rfl HONE.out ?_);rintro w2 hblk hbl hoth hsize;have hb:Below w1.heap.size w1 w2:=(bR.alloc lR _).trans (hbl _ lR);obtain⟨q,hq⟩:=eX w1.heap.size;rw[←hq]at hblk⊢;have Q2:=Hd hblk;have B2:=Hd (B1.out.trans (hb.mono B1.out.size));have HNC2:=Hd (HNC.out.below hb lR);clear hblk hbl hoth hsize hb hq
    by_cases he:en=0
    ·have HE:=Hd he;have heb:((en:Int) !=0)=false:=(by rw[bne_eq_false_iff_eq];omega);have y0:=Q2.out.cell 0;simp only[bK,bL]at y0;clear he
     by_cases hp0:par=0
     ·have HP0:=Hd hp0;clear hp0;have htm:Int.tmod (x:Int) 2=0:=by rw[HTM.out,HP0.out];rfl
      by_cases hk:kd=2
      ·have hk2:((kd:Int)==2)=true:=(by rw[beq_iff_eq];omega);have HX:=Hd (HXK.out HN.out HF.out HE.out (.inl ⟨HP0.out,by rw[←HKD.out];exact hk⟩));clear hk;go_wp2_with fail;refine bodyPost_ret (Bp rfl _ _ _) rfl ?_;exact HNO.out _ _ rfl (by decide) HX.out B2.out
      ·have hk2:((kd:Int)==2)=false:=(by rw[beq_eq_false_iff_ne];omega);obtain⟨R,hR,hn⟩:=HXA.out HN.out HF.out HE.out HP0.out (by rw[←HKD.out];exact hk);have HR:=Hd hR;have HNN:=Hd hn;clear hk hR hn;go_wp2_with (refine Ai rfl 52 (.tmp 10) rfl q rfl 52 #[.int .u8 (kd:Nat),f1,f2,f3,f4,f5,f6,f7,f8,f9] (0,0) _ Q2.out Tryz.underlying52 rfl (by kernel_rfl) ?_);clear y0;go_wp2_with fail;refine bodyPost_ret (Bp rfl _ _ _) rfl ?_;have hba:=(Below.refl w2.heap.size w2).alloc lR (.cells #[.int .i64 (x:Nat),.int .u8 (kd:Nat),f1,f2,f3,f4,f5,f6,f7,f8,f9] 87);refine HS.out _ _ rfl (by rw[HR.out]) (fun _=>by rw[HR.out,HNX.out HE.out,HNN.out]) ?_ (by rw[HR.out];exact StT.nil _ _) (B2.out.trans (hba.mono B2.out.size));rw[HR.out];exact⟨[(((x:Int),dn),#[.int .u8 (kd:Nat),f1,f2,f3,f4,f5,f6,f7,f8,f9])],rfl,OwnK.one (Blk.new _ _ _) B2.out.size rfl,fun t ht=>by
        simp only[aE,eD,or_false]at ht;subst ht;exact⟨HNC2.out.below hba lR,HLATE.out⟩⟩
     ·have HP1:=Hd (show par=1 by have:=HPAR.out;omega);clear hp0;obtain rfl:nx=(nn:Int):=HNX.out HE.out;have htm:Int.tmod (x:Int) 2=1:=by rw[HTM.out,HP1.out];rfl
      by_cases hk:kd=1
      ·have hk2:((kd:Int)==1)=true:=(by rw[beq_iff_eq];omega);have HX:=Hd (HXK.out HN.out HF.out HE.out (.inr ⟨HP1.out,by rw[←HKD.out];exact hk⟩));clear hk;go_wp2_with fail;refine bodyPost_ret (Bp rfl _ _ _) rfl ?_;exact HNO.out _ _ rfl (by decide) HX.out B2.out
      ·have hk2:((kd:Int)==1)=false:=(by rw[beq_eq_false_iff_ne];omega);have HNK:=Hd (show dn.kind≠1 by rw[←HKD.out];exact hk);have HCK2:=Hd (HCK.out HP1.out);have HCL2:=Hd (HCL.out HN.out HF.out HE.out HP1.out);have HCR2:=Hd (HCR.out HN.out HF.out HE.out HP1.out);have HXL2:=Hd (HXL.out HN.out HF.out HE.out HP1.out HNK.out);have HXR2:=Hd (HXR.out HN.out HF.out HE.out HP1.out HNK.out);have HXB2:=Hd (HXB.out HN.out HF.out HE.out HP1.out HNK.out);clear hk;go_wp2_with (refine Ai rfl 52 (.tmp 10) rfl q rfl 52 #[.int .u8 (kd:Nat),f1,f2,f3,f4,f5,f6,f7,f8,f9] (0,0) _ Q2.out Tryz.underlying52 rfl (by kernel_rfl) ?_);clear y0;obtain⟨w3,hw3⟩:=eX (w2.alloc (.cells #[.int .i64 (x:Nat),.int .u8 (kd:Nat),f1,f2,f3,f4,f5,f6,f7,f8,f9] 87));have HW3:=Hd hw3;have hba:Below w2.heap.size w2 w3:=(by rw[hw3];exact(Below.refl w2.heap.size w2).alloc lR _);have B3:=Hd (B2.out.trans (hba.mono B2.out.size));obtain⟨ow,how⟩:=eX w2.heap.size;have OW3:=Hd (show SpT w3 w.heap.size (.slice (some ⟨ow,0,none⟩) 1 1) [((x:Int),dn)]from⟨[(((x:Int),dn),#[.int .u8 (kd:Nat),f1,f2,f3,f4,f5,f6,f7,f8,f9])],rfl,OwnK.one (cs:=#[.int .i64 (x:Nat),.int .u8 (kd:Nat),f1,f2,f3,f4,f5,f6,f7,f8,f9]) (by rw[how,hw3];exact Blk.new _ _ _) (by rw[how];exact B2.out.size) rfl,fun t ht=>by
        simp only[aE,eD,or_false]at ht;subst ht;exact⟨HNC2.out.below hba lR,HLATE.out⟩⟩)
       have HOW:=Hd how;clear hw3 hba how;go_wp2_with fail;rw[←HW3.out,←HOW.out];refine(HCK2.out w3).mono ?_;rintro e w4 ⟨rfl,hb⟩;have B4:=Hd (B3.out.trans (hb.mono B3.out.size));have OW4:=Hd (OW3.out.below hb lR);clear hb htm hk2;go_wp2_with fail;refine(HCL2.out w4 B4.out).mono ?_;rintro e w5 ⟨o,s,n5,rfl,hn5,ho,hs,hb⟩;have B5:=Hd (B4.out.trans (hb.mono B4.out.size));have OW5:=Hd (OW4.out.below hb lR);have HO5:=Hd (ho.mono B4.out.size);have HS5:=Hd (hs.mono B4.out.size);obtain⟨el,hel⟩:=eX rl.er;rw[←hel]at hn5⊢;have HEL:=Hd hel;have HN5:=Hd hn5;clear hb ho hs hel hn5
       by_cases hl:el=0
       ·have HL0:=Hd (show rl.er=0 by rw[←HEL.out];exact hl);have hlb:((el:Int) !=0)=false:=(by rw[bne_eq_false_iff_eq];omega);have e5:=HN5.out hl;have CR3:=HCR2.out HL0.out;obtain⟨nl,hnl⟩:=eX (ln-rl.rest.length);rw[←HLN.out,←hnl]at e5;rw[←hnl]at CR3;subst e5;have HCR3:=Hd CR3;clear hl hnl CR3;go_wp2_with fail;refine(HCR3.out w5 B5.out).mono ?_;rintro e w6 ⟨o2,s2,n6,rfl,hn6,ho,hs,hb⟩;have B6:=Hd (B5.out.trans (hb.mono B5.out.size));have OW6:=Hd (OW5.out.below hb lR).u;have HO6:=Hd (HO5.out.below hb lR).u;have HS6:=Hd (HS5.out.below hb lR).u;have HO7:=Hd (ho.mono B5.out.size).u;have HS7:=Hd hs.u;obtain⟨er,her⟩:=eX rr.er;rw[←her]at hn6⊢;have HER:=Hd her;have HN6:=Hd hn6;clear hb ho hs her hn6
        by_cases hr:er=0
        ·have HR0:=Hd (show rr.er=0 by rw[←HER.out];exact hr);have hrb:((er:Int) !=0)=false:=(by rw[bne_eq_false_iff_eq];omega);have HNX6:=Hd (HN6.out hr);have HX:=Hd (HXB2.out HL0.out HR0.out);have HB1:=Hd (HBL.out HL0.out);have HB2:=Hd (HBR.out HR0.out);clear hr;have hba:=(Below.refl w6.heap.size w6).alloc lR (.cells #[] 87);go_wp2_with (at_builtin;refine Hn rfl (.tmp 125) (.tmp 126) rfl w6.heap.size _ [] rfl (SpU.lit (wc:=w6) (D:=w.heap.size)) o w.heap.size rl.op rfl (HO6.out.below hba lR) ?n1 ?b1 ?_);case n1=>have:=HB1.out;show 0+rl.op.length<137438953472;omega
         case b1=>simp
         rintro v7 w7 h7 b7;have B7:=Hd (hba.trans b7);have H7:=Hd h7;clear hba b7 h7;go_wp2_with (at_builtin;refine Hn rfl (.tmp 127) (.tmp 128) rfl w6.heap.size v7 _ rfl H7.out _ w.heap.size [((x:Int),dn)] rfl (OW6.out.below B7.out lR) ?n1 ?b1 ?_);case n1=>have:=HB1.out;show rl.op.length+1<137438953472;omega
         case b1=>exact B7.out.size
         rintro v8 w8 h8 b8;have B8:=Hd (B7.out.trans b8);have H8:=Hd h8;clear b8 h8;go_wp2_with (at_builtin;refine Hn rfl (.tmp 129) (.tmp 130) rfl w6.heap.size v8 _ rfl H8.out o2 w.heap.size rr.op rfl (HO7.out.below B8.out lR) ?n1 ?b1 ?_);case n1=>have:=HB1.out;have:=HB2.out;rw[aG];show rl.op.length+1+rr.op.length<137438953472;omega
         case b1=>exact B8.out.size
         rintro v9 w9 h9 b9;have B9:=Hd (B8.out.trans b9);have H9:=Hd h9;clear b9 h9;have hba:=(Below.refl w9.heap.size w9).alloc lR (.cells #[] 89);have hb6:=B9.out.trans (hba.mono B9.out.size);go_wp2_with (at_builtin;refine Lg rfl (.tmp 132) (.tmp 133) rfl w9.heap.size _ [] rfl (StU.lit (wc:=w6)) s w.heap.size rl.sh rfl (HS6.out.below hb6 lR) ?n1 ?b1 ?_);case n1=>have:=HB1.out;show 0+rl.sh.length<137438953472;omega
         case b1=>simp
         rintro v10 w10 h10 b10;have C10:=Hd (hba.trans b10);have B10:=Hd (B9.out.trans (C10.out.mono B9.out.size));have H10:=Hd h10;clear hba hb6 b10 h10;go_wp2_with (at_builtin;refine Lg rfl (.tmp 134) (.tmp 135) rfl w9.heap.size v10 _ rfl H10.out s2 w5.heap.size rr.sh rfl (HS7.out.below B10.out lR) ?n1 ?b1 ?_);case n1=>have:=HB1.out;have:=HB2.out;show rl.sh.length+rr.sh.length<137438953472;omega
         case b1=>exact C10.out.size
         rintro v11 w11 h11 b11;have C11:=Hd (C10.out.trans b11);have B11:=Hd (B9.out.trans (C11.out.mono B9.out.size));have H11:=Hd h11;clear b11 h11;go_wp2_with fail;refine bodyPost_ret (Bp rfl _ _ _) rfl ?_;refine HS.out _ _ rfl (by rw[HX.out]) (fun _=>by rw[HX.out,HLN.out];exact HNX6.out) ?_ ?_ (B6.out.trans (B11.out.mono B6.out.size))
         ·rw[HX.out];have:=(H9.out.below C11.out lR).t B11.out B6.out.size lR;simpa using this
         ·rw[HX.out];have:=H11.out.t B11.out (Nat.le_trans B6.out.size B9.out.size);simpa using this
        ·have HNE:=Hd hr;have hrb:((er:Int) !=0)=true:=(by rw[bne_iff_ne];omega);have HX:=Hd (HXR2.out HL0.out (by rw[←HER.out];exact hr));rw[←HER.out]at HX;clear hr;go_wp2_with fail;refine bodyPost_ret (Bp rfl _ _ _) rfl ?_;exact HNO.out _ _ rfl HNE.out HX.out B6.out
       ·have HNE:=Hd hl;have hlb:((el:Int) !=0)=true:=(by rw[bne_iff_ne];omega);have HX:=Hd (HXL2.out (by rw[←HEL.out];exact hl));rw[←HEL.out]at HX;clear hl;go_wp2_with fail;refine bodyPost_ret (Bp rfl _ _ _) rfl ?_;exact HNO.out _ _ rfl HNE.out HX.out B5.out
    ·have HNE:=Hd he;have heb:((en:Int) !=0)=true:=(by rw[bne_iff_ne];omega);have HX:=Hd (HXE.out HN.out HF.out he);clear he;go_wp2_with fail;refine bodyPost_ret (Bp rfl _ _ _) rfl ?_;exact HNO.out _ _ rfl HNE.out HX.out B2.out
 ·have hd1:decide ((p:Int)≥(ln:Int))=true:=decide_eq_true (by omega);have hd2:decide ((ln:Int)≤(p:Int))=true:=decide_eq_true (by omega);have hd3:decide (ln≤p)=true:=decide_eq_true (by omega);have HX:=Hd (HX4.out (by omega));clear h2;go_enter Tryz.func70,Tryz.ntmps70;go_wp2_with fail;refine bodyPost_ret (Bp rfl _ _ _) rfl ?_;exact HNO.out _ _ rfl (by decide) HX.out bR
theorem Vy (L:List Nat):(Av L 0).2.1.kind≤2:=by
 cases L with
 |nil=>unfold Av;rw[show Eb [] 0 1=([],[],4)from Cz []];exact aA _
 |cons k M=>
  unfold Av;rw[show Eb (k::M) 0 1=([k],M,0)from Cz (k::M)];simp only;rw[if_neg (by decide)]
  split
  ·exact aA _
  ·split
   ·split
    ·show 1≤2;decide
    ·exact aA _
   ·split
    ·split
     ·exact Nat.le_refl 2
     ·exact aA _
    ·exact aA _
theorem Ye (v:Value) (L:List Nat) (p x xl xr:Nat) (K:NodeD→List Nat→RdR) (rl rr:RdR) (w:World) (h:Rd w v (bvs L)) (hL:∀n∈L,n<256) (hl:L.length≤1000000000) (hp:p≤L.length) (hx2:x≤131070)
  (hA:x%2=0→K (Av (L.drop (p+1)) 0).2.1 (Av (L.drop (p+1)) 0).2.2.1=⟨0,[((x:Int),(Av (L.drop (p+1)) 0).2.1)],[],(Av (L.drop (p+1)) 0).2.2.1⟩)
  (hB:x%2=1→K (Av (L.drop (p+1)) 0).2.1 (Av (L.drop (p+1)) 0).2.2.1=Ll x (Av (L.drop (p+1)) 0).2.1 rl rr)
  (CK:x%2=1→∀W,Calls Tryz.prog 100 #[.int .i64 (x:Nat)] W fun e W'=>e=.returned (.tuple #[.int .i64 (xl:Nat),.int .i64 (xr:Nat)])∧Below W.heap.size W W')
  (CL:p<L.length→(Av (L.drop (p+1)) 0).1=0→x%2=1→∀W,Below w.heap.size w W→Calls Tryz.prog 70 #[v,.int .i64 ((L.length-(Av (L.drop (p+1)) 0).2.2.1.length:Nat):Int),.int .i64 (xl:Nat)] W (Zgs L rl W))
  (CR:p<L.length→(Av (L.drop (p+1)) 0).1=0→x%2=1→rl.er=0→∀W,Below w.heap.size w W→Calls Tryz.prog 70 #[v,.int .i64 ((L.length-rl.rest.length:Nat):Int),.int .i64 (xr:Nat)] W (Zgs L rr W))
  (BL:rl.er=0→rl.op.length≤1000000000∧rl.sh.length≤1000000000) (BR:rr.er=0→rr.op.length≤1000000000∧rr.sh.length≤1000000000):
  Calls Tryz.prog 70 #[v,.int .i64 (p:Nat),.int .i64 (x:Nat)] w (Zgs L (Rm x (L.drop p) K) w):=by
 have CT:p<L.length→∀W,Below w.heap.size w W→Calls Tryz.prog 128 #[v,.int .i64 ((p+1:Nat):Int)] W (Zj8 W (Zi8 L (p+1))):=fun hq W hW=>Vv v L (p+1) W (h.below hW lR) hL hl hq;unfold Zi8 at CT;rcases hM:L.drop p with _|⟨fl,M⟩
 ·have hlp:L.length≤p:=List.drop_eq_nil_iff.1 hM;have no:∀ {P:Prop},p<L.length→P:=fun hx=>absurd hx (by omega);refine Pp v L ((L.drop (p+1)).take 32) p x 0 (x%2) 0 0 xl xr Ak rl rr (Rm x [] K) w h hl hp hx2 rfl (fun hx=>no hx) (by decide) rfl (fun hx=>no hx) CK (fun hx=>no hx) (fun hx=>no hx) (by decide) BL BR (fun _=>rfl) (fun hx=>no hx) (fun hx=>no hx) (fun hx=>no hx) (fun hx=>no hx) (fun hx=>no hx) (fun hx=>no hx) (fun hx=>no hx) (fun hx=>no hx) (fun hx=>no hx)
 ·have hlt:p<L.length:=by
   rcases Nat.lt_or_ge p L.length with h1|h1
   ·exact h1
   ·rw[gS h1]at hM;cases hM
  have hdr:L.drop (p+1)=M:=(by rw[←gG,hM];rfl);have hat:L[p]? =some fl:=by
   have:(L.drop p)[0]? =some fl:=(by rw[hM];rfl);rw[List.getElem?_drop]at this;simpa using this
  have hf:fl<256:=hL fl (gL hat);have hml:M.length=L.length-p-1:=(by rw[←hdr,dE];omega);have CT2:=CT hlt;rw[hdr]at CT2 hA hB CL CR;obtain⟨en,hen⟩:=eX ((Av M 0).1);obtain⟨dn,hdn⟩:=eX ((Av M 0).2.1);obtain⟨R,hR⟩:=eX ((Av M 0).2.2.1);have RO:Jv x M K=if en≠0 then If en else if x%2=0∧dn.kind=2∨x%2=1∧dn.kind=1 then If 3 else K dn R:=by
   rw[hen,hdn,hR];rfl
  have RA:Rm x (fl::M) K=if 1<fl then If 3 else if fl=0 then(if M.length<32 then If 4 else⟨0,[],[((x:Int),M.take 32)],M.drop 32⟩)else Jv x M K:=rfl;rw[←hen,←hdn,←hR]at CT2;rw[←hdn,←hR]at hA hB;rw[←hen,←hR]at CL;rw[←hen]at CR;have hkd:dn.kind<256:=(by rw[hdn];exact Nat.lt_of_le_of_lt (Vy M) (by decide));refine Pp v L (M.take 32) p x fl (x%2) en (if en=0 then L.length-R.length else 0) xl xr dn rl rr (Rm x (fl::M) K) w h hl hp hx2 rfl (fun _=>by simp[bvs,hat]) hf (by rw[hdr]) (fun _ _=>CT2) CK (fun _ _ e hx=>by rw[if_pos e];exact CL hlt e hx) (fun _ _ e hx e2=>CR hlt e hx e2) hkd BL BR ?_ ?_ ?_ ?_ ?_ ?_ ?_ ?_ ?_ ?_
  ·intro hx;exact absurd hlt (by omega)
  ·intro _ c;rw[RA,if_pos c]
  ·intro _ c c2;rw[RA,if_neg (by omega),if_pos c,if_pos (by rw[hml];exact c2)]
  ·intro _ c c2;exact⟨M.drop 32,by rw[RA,if_neg (by omega),if_pos c,if_neg (by rw[hml];exact c2)],by rw[dE,hml];omega⟩
  ·intro _ c e;rw[RA,if_neg (by omega),if_neg (by omega),RO,if_pos e]
  ·intro _ c e e2;rw[RA,if_neg (by omega),if_neg (by omega),RO,if_neg (by omega),if_pos e2]
  ·intro _ c e e2 e3;refine⟨R,?_,by rw[if_pos e]⟩;rw[RA,if_neg (by omega),if_neg (by omega),RO,if_neg (by omega),if_neg (by omega),hA e2]
  ·intro _ c e e2 e3 e4;rw[RA,if_neg (by omega),if_neg (by omega),RO,if_neg (by omega),if_neg (by omega),hB e2,Ll,if_pos e4]
  ·intro _ c e e2 e3 e4 e5;rw[RA,if_neg (by omega),if_neg (by omega),RO,if_neg (by omega),if_neg (by omega),hB e2,Ll,if_neg (by omega),if_pos e5]
  ·intro _ c e e2 e3 e4 e5;rw[RA,if_neg (by omega),if_neg (by omega),RO,if_neg (by omega),if_neg (by omega),hB e2,Ll,if_neg (by omega),if_neg (by omega)]
theorem Zeb {k x:Nat} {M L:List Nat}(hM:M.length≤L.length)(hl:L.length≤1000000000)(hx:2^k≤x+1):(rdP k x M).er=0→(rdP k x M).op.length≤1000000000∧(rdP k x M).sh.length≤1000000000:=fun h=>by
 have:=(Tt k x M hx h).len;omega
theorem Zec (v:Value)(L:List Nat)(hL:∀n∈L,n<256)(hl:L.length≤1000000000):∀k x p w,IsLev x k→x+2^k≤131071→p≤L.length→Rd w v (bvs L)→
  Calls Tryz.prog 70 #[v,.int .i64 (p:Nat),.int .i64 (x:Nat)] w (Zgs L (rdP k x (L.drop p)) w):=by
 intro k
 induction k with
 |zero=>
  intro x p w hlev hx hp h;have h0:=Gj hlev;have no:∀ {P:Prop},x%2=1→P:=fun hx=>absurd hx (by omega);exact Ye v L p x 0 0 (fun d R=>⟨0,[((x:Int),d)],[],R⟩) (If 1) (If 1) w h hL hl hp (by omega) (fun _=>rfl) (fun e=>no e) (fun e=>no e) (fun _ _ e=>no e) (fun _ _ e=>no e) (fun e=>absurd e (by decide)) (fun e=>absurd e (by decide))
 |succ k ih=>
  intro x p w hlev hx hp h;have h1:=Jn hlev;obtain⟨l1,l2,l3,l4,l5,l6,l7⟩:=Go.Proofs.YtfofaiommeckbaaGreat.kids_two hlev hx (by omega);have hpw:=Nat.two_pow_pos k;have hup:2*2^k≤x+1:=by
   have hm:=Nat.mod_le x (2^(k+1+1));unfold IsLev at hlev;have e:2^(k+1)=2*2^k:=(by rw[Nat.pow_succ];omega);omega
  obtain⟨R,hR⟩:=eX ((Av (L.drop (p+1)) 0).2.2.1);have sR:Suf R L:=(by rw[hR];exact(Tv _).trans (Suf.drop L (p+1)));obtain⟨R2,hR2⟩:=eX ((rdP k (x-2^k) R).rest);have sR2:Suf R2 L:=(by rw[hR2];exact(Zhv _ _ _).trans sR);refine Ye v L p x (x-2^k) (x+2^k) (fun d R=>Ll x d (rdP k (x-2^k) R) (rdP k (x+2^k) (rdP k (x-2^k) R).rest)) (rdP k (x-2^k) R) (rdP k (x+2^k) R2) w h hL hl hp (by omega) (fun e=>absurd e (by omega)) (fun _=>by rw[←hR,hR2]) (fun _ W=> ?_) (fun _ _ _ W hW=> ?_) (fun _ _ _ _ W hW=> ?_) ?_ ?_
  ·refine(Hr (x:Int) W).mono ?_;rintro e w' ⟨rfl,hb⟩;rw[l6,l7];exact⟨rfl,hb⟩
  ·have:=ih (x-2^k) (L.length-R.length) W l1 (by omega) (by omega) (h.below hW lR);rw[sR.at.2]at this;rw[←hR];exact this
  ·have:=ih (x+2^k) (L.length-R2.length) W l2 (by omega) (by omega) (h.below hW lR);rw[sR2.at.2]at this;rw[←hR2];exact this
  ·exact Zeb sR.at.1 hl (by omega)
  ·exact Zeb sR2.at.1 hl (by omega)
theorem Zjc {L:List Nat} {p:Nat}(h:p+4≤L.length):Hj (L.drop p)=((L.getD p 0*256+L.getD (p+1) 0)*256+L.getD (p+2) 0)*256+L.getD (p+3) 0:=by
 unfold Hj;rw[gK (show p<L.length by omega),gK (show p+1<L.length by omega),gK (show p+1+1<L.length by omega),gK (show p+1+1+1<L.length by omega)];simp only[List.take_succ_cons,List.take_zero,aH];rw[aI (show p<L.length by omega),aI (show p+1<L.length by omega),aI (show p+2<L.length by omega),aI (show p+3<L.length by omega)];simp[Ct]
theorem Pq (v:Value)(L:List Nat)(p:Nat)(w:World)(h:Rd w v (bvs L))(hL:∀n∈L,n<256)(hl:L.length≤1000000000)(hp:p+4≤L.length):
  Calls Tryz.prog 68 #[v,.int .i64 (p:Nat)] w fun e w'=>e=.returned (.int .i64 (Hj (L.drop p):Nat))∧Below w.heap.size w w':=by
 have hmE:=Zjc hp;rcases h.cases with⟨_,_,_,e0⟩|⟨vb,vo,cap,_,_,_,rfl,hvb,hcell⟩
 ·subst e0;simp at hp
 have hg256:∀t,L.getD t 0<256:=fun t=>by
  rw[aH];rcases ht:L[t]? with _|y
  ·decide
  ·exact hL y (gL ht)
 obtain⟨ln,hln⟩:=eX L.length;rw[←hln]at hcell hl hp⊢;obtain⟨t1,ht1⟩:=eX (p+1);obtain⟨t2,ht2⟩:=eX (p+2);obtain⟨t3,ht3⟩:=eX (p+3);have y0:=hcell p (by omega);have y1:=hcell t1 (by omega);have y2:=hcell t2 (by omega);have y3:=hcell t3 (by omega);have HTT:=Hd (show p<ln∧t1<ln∧t2<ln∧t3<ln by omega);have HTI:=Hd (show(p:Int)+1=(t1:Int)∧(p:Int)+2=(t2:Int)∧(p:Int)+3=(t3:Int) by omega);have h256:=And.intro (hg256 p) (And.intro (hg256 t1) (And.intro (hg256 t2) (hg256 t3)));rw[←ht1,←ht2,←ht3]at hmE;obtain⟨d0,hd0⟩:=eX (L.getD p 0);obtain⟨d1,hd1⟩:=eX (L.getD t1 0);obtain⟨d2,hd2⟩:=eX (L.getD t2 0);obtain⟨d3,hd3⟩:=eX (L.getD t3 0);rw[←hd0,←hd1,←hd2,←hd3]at hmE h256;rw[←hd0]at y0;rw[←hd1]at y1;rw[←hd2]at y2;rw[←hd3]at y3;have HD:=Hd h256;obtain⟨m,hm⟩:=eX (Hj (L.drop p));have HMI:=Hd (show(((d0:Int)*256+(d1:Int))*256+(d2:Int))*256+(d3:Int)=(m:Int) by rw[hm,hmE];simp);rw[←hm];have HLL:=Hd hl;clear hmE hd0 hd1 hd2 hd3 h256 hg256 ht1 ht2 ht3 hm hcell hln h hL hl hp;go_enter Tryz.func68,Tryz.ntmps68;go_wp2_with fail;refine Ax [fun v _=>v=.slice (some ⟨vb,vo,none⟩) ln cap,fun v _=>v=.int .i64 (p:Nat),fun v _=>v=.pointer (some ⟨vb,vo+p,none⟩),fun v _=>v=.int .u8 (d0:Nat),fun v _=>v=.int .i64 (d0:Nat),fun v _=>v=.int .i64 ((d0:Int)*256),fun v _=>v=.slice (some ⟨vb,vo,none⟩) ln cap,fun v _=>v=.int .i64 (p:Nat),fun v _=>v=.int .i64 (t1:Nat),fun v _=>v=.pointer (some ⟨vb,vo+t1,none⟩),fun v _=>v=.int .u8 (d1:Nat),fun v _=>v=.int .i64 (d1:Nat),fun v _=>v=.int .i64 ((d0:Int)*256+(d1:Int)),fun v _=>v=.int .i64 (((d0:Int)*256+(d1:Int))*256),fun v _=>v=.slice (some ⟨vb,vo,none⟩) ln cap,fun v _=>v=.int .i64 (p:Nat),fun v _=>v=.int .i64 (t2:Nat),fun v _=>v=.pointer (some ⟨vb,vo+t2,none⟩),fun v _=>v=.int .u8 (d2:Nat),fun v _=>v=.int .i64 (d2:Nat),fun v _=>v=.int .i64 (((d0:Int)*256+(d1:Int))*256+(d2:Int)),fun v _=>v=.int .i64 ((((d0:Int)*256+(d1:Int))*256+(d2:Int))*256),fun v _=>v=.slice (some ⟨vb,vo,none⟩) ln cap,fun v _=>v=.int .i64 (p:Nat),fun v _=>v=.int .i64 (t3:Nat),fun v _=>v=.pointer (some ⟨vb,vo+t3,none⟩),fun v _=>v=.int .u8 (d3:Nat),fun v _=>v=.int .i64 (d3:Nat),fun v _=>v=.int .i64 (m:Nat),fun v _=>v=.int .i64 (m:Nat)]
  [true,true,true,true,true,true,true,true,true,true,true,true,true,true,true,true,true,true,true,true,true,true,true,true,true,true,true,true,true,true] (fun x=>Below w.heap.size w x) (fun x y=>Below x.heap.size x y) none (by kernel_rfl) ?_ (⟨rfl,rfl,rfl,lR,fun _ _=>rfl⟩) (fun x y _ h=>h) (fun x y hx hs=>hx.trans (hs.mono hx.size)) (by kernel_rfl) (by kernel_rfl) ?_ ?_
 ·exact Ad (fun _ _ _ h _ _=>h) (Ad (fun _ _ _ h _ _=>h) (Ad (fun _ _ _ h _ _=>h) (Ad (fun _ _ _ h _ _=>h) (Ad (fun _ _ _ h _ _=>h) (Ad (fun _ _ _ h _ _=>h) (Ad (fun _ _ _ h _ _=>h) (Ad (fun _ _ _ h _ _=>h) (Ad (fun _ _ _ h _ _=>h) (Ad (fun _ _ _ h _ _=>h) (Ad (fun _ _ _ h _ _=>h) (Ad (fun _ _ _ h _ _=>h) (Ad (fun _ _ _ h _ _=>h) (Ad (fun _ _ _ h _ _=>h) (Ad (fun _ _ _ h _ _=>h) (Ad (fun _ _ _ h _ _=>h) (Ad (fun _ _ _ h _ _=>h) (Ad (fun _ _ _ h _ _=>h) (Ad (fun _ _ _ h _ _=>h) (Ad (fun _ _ _ h _ _=>h) (Ad (fun _ _ _ h _ _=>h) (Ad (fun _ _ _ h _ _=>h) (Ad (fun _ _ _ h _ _=>h) (Ad (fun _ _ _ h _ _=>h) (Ad (fun _ _ _ h _ _=>h) (Ad (fun _ _ _ h _ _=>h) (Ad (fun _ _ _ h _ _=>h) (Ad (fun _ _ _ h _ _=>h) (Ad (fun _ _ _ h _ _=>h) (Ad (fun _ _ _ h _ _=>h) (Aj))))))))))))))))))))))))))))))
 ·refine .cons (Ae ?_) (.cons (Ae ?_) (.cons (Ae ?_) (.cons (Ae ?_) (.cons (Ae ?_) (.cons (Ae ?_) (.cons (Ae ?_) (.cons (Ae ?_) (.cons (Ae ?_) (.cons (Ae ?_) (.cons (Ae ?_) (.cons (Ae ?_) (.cons (Ae ?_) (.cons (Ae ?_) (.cons (Ae ?_) (.cons (Ae ?_) (.cons (Ae ?_) (.cons (Ae ?_) (.cons (Ae ?_) (.cons (Ae ?_) (.cons (Ae ?_) (.cons (Ae ?_) (.cons (Ae ?_) (.cons (Ae ?_) (.cons (Ae ?_) (.cons (Ae ?_) (.cons (Ae ?_) (.cons (Ae ?_) (.cons (Ae ?_) (.cons (Ae ?_) (.nil))))))))))))))))))))))))))))))
  ·intro a wx hbx hq ho hf;have hbx:Below w.heap.size w wx:=hbx;have hbq:Below w.heap.size w wx:=hq (by kernel_rfl);clear hq;refine⟨rfl,?_⟩;intro K hK;have e0:a.tmps[0]?.getD undef=.slice (some ⟨vb,vo,none⟩) ln cap:=ho 0 (by kernel_rfl);go_simp;exact hK _ _ rfl (Ab rfl bR)
  ·intro a wx hbx hq ho hf;have hbx:Below w.heap.size w wx:=hbx;have hbq:Below w.heap.size w wx:=hq (by kernel_rfl);clear hq;refine⟨rfl,?_⟩;intro K hK;have e0:a.tmps[1]?.getD undef=.int .i64 (p:Nat):=ho 1 (by kernel_rfl);go_simp;exact hK _ _ rfl (Ab rfl bR)
  ·intro a wx hbx hq ho hf;have hbx:Below w.heap.size w wx:=hbx;have hbq:Below w.heap.size w wx:=hq (by kernel_rfl);clear hq;refine⟨rfl,?_⟩;intro K hK;have e0:a.tmps[5]?.getD undef=.slice (some ⟨vb,vo,none⟩) ln cap:=hf.1;have e1:a.tmps[6]?.getD undef=.int .i64 (p:Nat):=hf.2.1;have ht:=HTT.out.1;go_simp;exact hK _ _ rfl (Ab rfl bR)
  ·intro a wx hbx hq ho hf;have hbx:Below w.heap.size w wx:=hbx;have hbq:Below w.heap.size w wx:=hq (by kernel_rfl);clear hq;refine⟨rfl,?_⟩;intro K hK;have e0:a.tmps[7]?.getD undef=.pointer (some ⟨vb,vo+p,none⟩):=hf.1;have d9:=(hbx.cell (p:=⟨vb,vo+p,none⟩) hvb).trans y0;go_simp;exact hK _ _ rfl (Ab rfl bR)
  ·intro a wx hbx hq ho hf;have hbx:Below w.heap.size w wx:=hbx;have hbq:Below w.heap.size w wx:=hq (by kernel_rfl);clear hq;refine⟨rfl,?_⟩;intro K hK;have e0:a.tmps[8]?.getD undef=.int .u8 (d0:Nat):=hf.1;have hd0:=HD.out.1;have gw1:IntKind.i64.wrap ((d0:Int))=(d0:Int):=(by rw[IntKind.wrap_i64];omega);go_simp;exact hK _ _ rfl (Ab rfl bR)
  ·intro a wx hbx hq ho hf;have hbx:Below w.heap.size w wx:=hbx;have hbq:Below w.heap.size w wx:=hq (by kernel_rfl);clear hq;refine⟨rfl,?_⟩;intro K hK;have e0:a.tmps[9]?.getD undef=.int .i64 (d0:Nat):=hf.1;obtain⟨hd0,hd1,hd2,hd3⟩:=HD.out;have gw1:IntKind.i64.wrap (((d0:Int)*256))=((d0:Int)*256):=(by rw[IntKind.wrap_i64];omega);have gw2:(d0:Int)*256=((d0:Int)*256):=(by omega);have gw3:IntKind.i64.wrap ((d0:Int)*256)=((d0:Int)*256):=(by rw[gw2];exact gw1);go_simp;exact hK _ _ rfl (Ab rfl bR)
  ·intro a wx hbx hq ho hf;have hbx:Below w.heap.size w wx:=hbx;have hbq:Below w.heap.size w wx:=hq (by kernel_rfl);clear hq;refine⟨rfl,?_⟩;intro K hK;have e0:a.tmps[0]?.getD undef=.slice (some ⟨vb,vo,none⟩) ln cap:=ho 0 (by kernel_rfl);go_simp;exact hK _ _ rfl (Ab rfl bR)
  ·intro a wx hbx hq ho hf;have hbx:Below w.heap.size w wx:=hbx;have hbq:Below w.heap.size w wx:=hq (by kernel_rfl);clear hq;refine⟨rfl,?_⟩;intro K hK;have e0:a.tmps[1]?.getD undef=.int .i64 (p:Nat):=ho 1 (by kernel_rfl);go_simp;exact hK _ _ rfl (Ab rfl bR)
  ·intro a wx hbx hq ho hf;have hbx:Below w.heap.size w wx:=hbx;have hbq:Below w.heap.size w wx:=hq (by kernel_rfl);clear hq;refine⟨rfl,?_⟩;intro K hK;have e0:a.tmps[12]?.getD undef=.int .i64 (p:Nat):=hf.1;have gw0:(p:Int)+1=(t1:Int):=HTI.out.1;have ht:=HTT.out.2.1;have hl3:=HLL.out;have gw1:IntKind.i64.wrap ((t1:Int))=(t1:Int):=(by rw[IntKind.wrap_i64];omega);have gw2:(p:Int)+1=(t1:Int):=(by omega);have gw3:IntKind.i64.wrap ((p:Int)+1)=(t1:Int):=(by rw[gw2];exact gw1);go_simp;exact hK _ _ rfl (Ab rfl bR)
  ·intro a wx hbx hq ho hf;have hbx:Below w.heap.size w wx:=hbx;have hbq:Below w.heap.size w wx:=hq (by kernel_rfl);clear hq;refine⟨rfl,?_⟩;intro K hK;have e0:a.tmps[11]?.getD undef=.slice (some ⟨vb,vo,none⟩) ln cap:=hf.1;have e1:a.tmps[13]?.getD undef=.int .i64 (t1:Nat):=hf.2.1;have ht:=HTT.out.2.1;go_simp;exact hK _ _ rfl (Ab rfl bR)
  ·intro a wx hbx hq ho hf;have hbx:Below w.heap.size w wx:=hbx;have hbq:Below w.heap.size w wx:=hq (by kernel_rfl);clear hq;refine⟨rfl,?_⟩;intro K hK;have e0:a.tmps[14]?.getD undef=.pointer (some ⟨vb,vo+t1,none⟩):=hf.1;have d9:=(hbx.cell (p:=⟨vb,vo+t1,none⟩) hvb).trans y1;go_simp;exact hK _ _ rfl (Ab rfl bR)
  ·intro a wx hbx hq ho hf;have hbx:Below w.heap.size w wx:=hbx;have hbq:Below w.heap.size w wx:=hq (by kernel_rfl);clear hq;refine⟨rfl,?_⟩;intro K hK;have e0:a.tmps[15]?.getD undef=.int .u8 (d1:Nat):=hf.1;have hd1:=HD.out.2.1;have gw1:IntKind.i64.wrap ((d1:Int))=(d1:Int):=(by rw[IntKind.wrap_i64];omega);go_simp;exact hK _ _ rfl (Ab rfl bR)
  ·intro a wx hbx hq ho hf;have hbx:Below w.heap.size w wx:=hbx;have hbq:Below w.heap.size w wx:=hq (by kernel_rfl);clear hq;refine⟨rfl,?_⟩;intro K hK;have e0:a.tmps[10]?.getD undef=.int .i64 ((d0:Int)*256):=hf.1;have e1:a.tmps[16]?.getD undef=.int .i64 (d1:Nat):=hf.2.1;obtain⟨hd0,hd1,hd2,hd3⟩:=HD.out;have gw1:IntKind.i64.wrap (((d0:Int)*256+(d1:Int)))=((d0:Int)*256+(d1:Int)):=(by rw[IntKind.wrap_i64];omega);have gw2:((d0:Int)*256)+(d1:Int)=((d0:Int)*256+(d1:Int)):=(by omega);have gw3:IntKind.i64.wrap (((d0:Int)*256)+(d1:Int))=((d0:Int)*256+(d1:Int)):=(by rw[gw2];exact gw1);go_simp;exact hK _ _ rfl (Ab rfl bR)
  ·intro a wx hbx hq ho hf;have hbx:Below w.heap.size w wx:=hbx;have hbq:Below w.heap.size w wx:=hq (by kernel_rfl);clear hq;refine⟨rfl,?_⟩;intro K hK;have e0:a.tmps[17]?.getD undef=.int .i64 ((d0:Int)*256+(d1:Int)):=hf.1;obtain⟨hd0,hd1,hd2,hd3⟩:=HD.out;have gw1:IntKind.i64.wrap ((((d0:Int)*256+(d1:Int))*256))=(((d0:Int)*256+(d1:Int))*256):=(by rw[IntKind.wrap_i64];omega);have gw2:((d0:Int)*256+(d1:Int))*256=(((d0:Int)*256+(d1:Int))*256):=(by omega);have gw3:IntKind.i64.wrap (((d0:Int)*256+(d1:Int))*256)=(((d0:Int)*256+(d1:Int))*256):=(by rw[gw2];exact gw1);go_simp;exact hK _ _ rfl (Ab rfl bR)
  ·intro a wx hbx hq ho hf;have hbx:Below w.heap.size w wx:=hbx;have hbq:Below w.heap.size w wx:=hq (by kernel_rfl);clear hq;refine⟨rfl,?_⟩;intro K hK;have e0:a.tmps[0]?.getD undef=.slice (some ⟨vb,vo,none⟩) ln cap:=ho 0 (by kernel_rfl);go_simp;exact hK _ _ rfl (Ab rfl bR)
  ·intro a wx hbx hq ho hf;have hbx:Below w.heap.size w wx:=hbx;have hbq:Below w.heap.size w wx:=hq (by kernel_rfl);clear hq;refine⟨rfl,?_⟩;intro K hK;have e0:a.tmps[1]?.getD undef=.int .i64 (p:Nat):=ho 1 (by kernel_rfl);go_simp;exact hK _ _ rfl (Ab rfl bR)
  ·intro a wx hbx hq ho hf;have hbx:Below w.heap.size w wx:=hbx;have hbq:Below w.heap.size w wx:=hq (by kernel_rfl);clear hq;refine⟨rfl,?_⟩;intro K hK;have e0:a.tmps[20]?.getD undef=.int .i64 (p:Nat):=hf.1;have gw0:(p:Int)+2=(t2:Int):=HTI.out.2.1;have ht:=HTT.out.2.2.1;have hl3:=HLL.out;have gw1:IntKind.i64.wrap ((t2:Int))=(t2:Int):=(by rw[IntKind.wrap_i64];omega);have gw2:(p:Int)+2=(t2:Int):=(by omega);have gw3:IntKind.i64.wrap ((p:Int)+2)=(t2:Int):=(by rw[gw2];exact gw1);go_simp;exact hK _ _ rfl (Ab rfl bR)
  ·intro a wx hbx hq ho hf;have hbx:Below w.heap.size w wx:=hbx;have hbq:Below w.heap.size w wx:=hq (by kernel_rfl);clear hq;refine⟨rfl,?_⟩;intro K hK;have e0:a.tmps[19]?.getD undef=.slice (some ⟨vb,vo,none⟩) ln cap:=hf.1;have e1:a.tmps[21]?.getD undef=.int .i64 (t2:Nat):=hf.2.1;have ht:=HTT.out.2.2.1;go_simp;exact hK _ _ rfl (Ab rfl bR)
  ·intro a wx hbx hq ho hf;have hbx:Below w.heap.size w wx:=hbx;have hbq:Below w.heap.size w wx:=hq (by kernel_rfl);clear hq;refine⟨rfl,?_⟩;intro K hK;have e0:a.tmps[22]?.getD undef=.pointer (some ⟨vb,vo+t2,none⟩):=hf.1;have d9:=(hbx.cell (p:=⟨vb,vo+t2,none⟩) hvb).trans y2;go_simp;exact hK _ _ rfl (Ab rfl bR)
  ·intro a wx hbx hq ho hf;have hbx:Below w.heap.size w wx:=hbx;have hbq:Below w.heap.size w wx:=hq (by kernel_rfl);clear hq;refine⟨rfl,?_⟩;intro K hK;have e0:a.tmps[23]?.getD undef=.int .u8 (d2:Nat):=hf.1;have hd2:=HD.out.2.2.1;have gw1:IntKind.i64.wrap ((d2:Int))=(d2:Int):=(by rw[IntKind.wrap_i64];omega);go_simp;exact hK _ _ rfl (Ab rfl bR)
  ·intro a wx hbx hq ho hf;have hbx:Below w.heap.size w wx:=hbx;have hbq:Below w.heap.size w wx:=hq (by kernel_rfl);clear hq;refine⟨rfl,?_⟩;intro K hK;have e0:a.tmps[18]?.getD undef=.int .i64 (((d0:Int)*256+(d1:Int))*256):=hf.1;have e1:a.tmps[24]?.getD undef=.int .i64 (d2:Nat):=hf.2.1;obtain⟨hd0,hd1,hd2,hd3⟩:=HD.out;have gw1:IntKind.i64.wrap ((((d0:Int)*256+(d1:Int))*256+(d2:Int)))=(((d0:Int)*256+(d1:Int))*256+(d2:Int)):=(by rw[IntKind.wrap_i64];omega);have gw2:(((d0:Int)*256+(d1:Int))*256)+(d2:Int)=(((d0:Int)*256+(d1:Int))*256+(d2:Int)):=(by omega);have gw3:IntKind.i64.wrap ((((d0:Int)*256+(d1:Int))*256)+(d2:Int))=(((d0:Int)*256+(d1:Int))*256+(d2:Int)):=(by rw[gw2];exact gw1);go_simp;exact hK _ _ rfl (Ab rfl bR)
  ·intro a wx hbx hq ho hf;have hbx:Below w.heap.size w wx:=hbx;have hbq:Below w.heap.size w wx:=hq (by kernel_rfl);clear hq;refine⟨rfl,?_⟩;intro K hK;have e0:a.tmps[25]?.getD undef=.int .i64 (((d0:Int)*256+(d1:Int))*256+(d2:Int)):=hf.1;obtain⟨hd0,hd1,hd2,hd3⟩:=HD.out;have gw1:IntKind.i64.wrap (((((d0:Int)*256+(d1:Int))*256+(d2:Int))*256))=((((d0:Int)*256+(d1:Int))*256+(d2:Int))*256):=(by rw[IntKind.wrap_i64];omega);have gw2:(((d0:Int)*256+(d1:Int))*256+(d2:Int))*256=((((d0:Int)*256+(d1:Int))*256+(d2:Int))*256):=(by omega);have gw3:IntKind.i64.wrap ((((d0:Int)*256+(d1:Int))*256+(d2:Int))*256)=((((d0:Int)*256+(d1:Int))*256+(d2:Int))*256):=(by rw[gw2];exact gw1);go_simp;exact hK _ _ rfl (Ab rfl bR)
  ·intro a wx hbx hq ho hf;have hbx:Below w.heap.size w wx:=hbx;have hbq:Below w.heap.size w wx:=hq (by kernel_rfl);clear hq;refine⟨rfl,?_⟩;intro K hK;have e0:a.tmps[0]?.getD undef=.slice (some ⟨vb,vo,none⟩) ln cap:=ho 0 (by kernel_rfl);go_simp;exact hK _ _ rfl (Ab rfl bR)
  ·intro a wx hbx hq ho hf;have hbx:Below w.heap.size w wx:=hbx;have hbq:Below w.heap.size w wx:=hq (by kernel_rfl);clear hq;refine⟨rfl,?_⟩;intro K hK;have e0:a.tmps[1]?.getD undef=.int .i64 (p:Nat):=ho 1 (by kernel_rfl);go_simp;exact hK _ _ rfl (Ab rfl bR)
  ·intro a wx hbx hq ho hf;have hbx:Below w.heap.size w wx:=hbx;have hbq:Below w.heap.size w wx:=hq (by kernel_rfl);clear hq;refine⟨rfl,?_⟩;intro K hK;have e0:a.tmps[28]?.getD undef=.int .i64 (p:Nat):=hf.1;have gw0:(p:Int)+3=(t3:Int):=HTI.out.2.2;have ht:=HTT.out.2.2.2;have hl3:=HLL.out;have gw1:IntKind.i64.wrap ((t3:Int))=(t3:Int):=(by rw[IntKind.wrap_i64];omega);have gw2:(p:Int)+3=(t3:Int):=(by omega);have gw3:IntKind.i64.wrap ((p:Int)+3)=(t3:Int):=(by rw[gw2];exact gw1);go_simp;exact hK _ _ rfl (Ab rfl bR)
  ·intro a wx hbx hq ho hf;have hbx:Below w.heap.size w wx:=hbx;have hbq:Below w.heap.size w wx:=hq (by kernel_rfl);clear hq;refine⟨rfl,?_⟩;intro K hK;have e0:a.tmps[27]?.getD undef=.slice (some ⟨vb,vo,none⟩) ln cap:=hf.1;have e1:a.tmps[29]?.getD undef=.int .i64 (t3:Nat):=hf.2.1;have ht:=HTT.out.2.2.2;go_simp;exact hK _ _ rfl (Ab rfl bR)
  ·intro a wx hbx hq ho hf;have hbx:Below w.heap.size w wx:=hbx;have hbq:Below w.heap.size w wx:=hq (by kernel_rfl);clear hq;refine⟨rfl,?_⟩;intro K hK;have e0:a.tmps[30]?.getD undef=.pointer (some ⟨vb,vo+t3,none⟩):=hf.1;have d9:=(hbx.cell (p:=⟨vb,vo+t3,none⟩) hvb).trans y3;go_simp;exact hK _ _ rfl (Ab rfl bR)
  ·intro a wx hbx hq ho hf;have hbx:Below w.heap.size w wx:=hbx;have hbq:Below w.heap.size w wx:=hq (by kernel_rfl);clear hq;refine⟨rfl,?_⟩;intro K hK;have e0:a.tmps[31]?.getD undef=.int .u8 (d3:Nat):=hf.1;have hd3:=HD.out.2.2.2;have gw1:IntKind.i64.wrap ((d3:Int))=(d3:Int):=(by rw[IntKind.wrap_i64];omega);go_simp;exact hK _ _ rfl (Ab rfl bR)
  ·intro a wx hbx hq ho hf;have hbx:Below w.heap.size w wx:=hbx;have hbq:Below w.heap.size w wx:=hq (by kernel_rfl);clear hq;refine⟨rfl,?_⟩;intro K hK;have e0:a.tmps[26]?.getD undef=.int .i64 ((((d0:Int)*256+(d1:Int))*256+(d2:Int))*256):=hf.1;have e1:a.tmps[32]?.getD undef=.int .i64 (d3:Nat):=hf.2.1;obtain⟨hd0,hd1,hd2,hd3⟩:=HD.out;have hm:=HMI.out;have gw1:IntKind.i64.wrap ((m:Int))=(m:Int):=(by rw[IntKind.wrap_i64];omega);have gw2:((((d0:Int)*256+(d1:Int))*256+(d2:Int))*256)+(d3:Int)=(m:Int):=(by omega);have gw3:IntKind.i64.wrap (((((d0:Int)*256+(d1:Int))*256+(d2:Int))*256)+(d3:Int))=(m:Int):=(by rw[gw2];exact gw1);go_simp;exact hK _ _ rfl (Ab rfl bR)
  ·intro a wx hbx hq ho hf;have hbx:Below w.heap.size w wx:=hbx;have hbq:Below w.heap.size w wx:=hq (by kernel_rfl);clear hq;refine⟨rfl,?_⟩;intro K hK;have e0:a.tmps[33]?.getD undef=.int .i64 (m:Nat):=hf.1;go_simp;exact hK _ _ rfl (Ab rfl bR)
 ·rintro f w9 hb9 hfin;have hb9:Below w.heap.size w w9:=hb9;have S4:f 4=.int .i64 (m:Nat):=hfin.2.2.2.2.2.2.2.2.2.2.2.2.2.2.2.2.2.2.2.2.2.2.2.2.2.2.2.2.2.1;clear hfin;simp only[Aw,Bl,Ga,cH,cI,cJ,cK,Nat.reduceBEq,Nat.reduceAdd,Bool.or_false,Bool.or_true,cond_true,cond_false];rw[S4];clear S4
  clear y0 y1 y2 y3;go_wp2_with fail;go_ret;exact⟨rfl,hb9⟩
theorem Rd.slotN {w:World} {q i:Nat} {v u:Value} {xs:List Value} {a:Option Addr} {n c:Nat}(h:Rd w v xs)(hx:∀x∈xs,x≠ .slice a n c)(hc:w.cell? ⟨q,i,none⟩=some (.slice a n c)):Rd (w.setCell ⟨q,i,none⟩ u) v xs:=by
 obtain⟨a',cap,h1,h2,h3,h4|⟨b,off,h4,h6⟩⟩:=h
 ·exact⟨a',cap,h1,h2,h3,.inl h4⟩
 ·refine⟨a',cap,h1,h2,h3,.inr ⟨b,off,h4,fun j x hj=> ?_⟩⟩;rw[World.cell?_setCell_other]
  ·exact h6 j x hj
  ·intro e;have h7:=h6 j x hj;rw[←e,hc]at h7;simp only[Option.some.injEq]at h7;exact hx x (gL hj) h7.symm
theorem Zhw (L:List Nat)(a:Option Addr)(n c:Nat):∀x∈bvs L,x≠ .slice a n c:=by
 intro x hx e;subst e;simp[bvs]at hx
theorem Zkf (L:List Int)(a:Option Addr)(n c:Nat):∀x∈ivs .i64 L,x≠ .slice a n c:=by
 intro x hx e;subst e;simp[ivs]at hx
theorem Zak {w:World} {q i:Nat} {d:NodeD} {cs:Array Value} {u:Value} {a:Option Addr} {n c:Nat}(h:NodeC w d cs)(hc:w.cell? ⟨q,i,none⟩=some (.slice a n c)):NodeC (w.setCell ⟨q,i,none⟩ u) d cs:=by
 obtain⟨a1,c1,a2,c2,a3,c3,a4,c4,a5,c5,b1,e1,b2,e2,b3,e3,rfl,h1,h2,h3,h4,h5,h6,h7,h8⟩:=h;have B:=fun L=>Zhw L a n c;exact⟨a1,c1,a2,c2,a3,c3,a4,c4,a5,c5,b1,e1,b2,e2,b3,e3,rfl,h1.slotN (B _) hc,h2.slotN (B _) hc,h3.slotN (B _) hc,h4.slotN (B _) hc,h5.slotN (B _) hc,h6.slotN (B _) hc,h7.slotN (B _) hc,h8.slotN (Zkf _ a n c) hc⟩
theorem SpT.slotN {w:World} {B q i:Nat} {v u:Value} {l:List (Int×NodeD)} {a:Option Addr} {n c:Nat}(h:SpT w B v l)(hq:q<B)(hc:w.cell? ⟨q,i,none⟩=some (.slice a n c)):SpT (w.setCell ⟨q,i,none⟩ u) B v l:=by
 obtain⟨T,h1,h2,h3⟩:=h;exact⟨T,h1,OwnK.onlyQ h2 (Only.set (a:=w) (B:=q) i u) hq,fun t ht=>⟨Zak (h3 t ht).1 hc,(h3 t ht).2⟩⟩
theorem StT.slotN {w:World} {B q i:Nat} {v u:Value} {l:List (Int×List Nat)} {a:Option Addr} {n c:Nat}(h:StT w B v l)(hq:q<B)(hc:w.cell? ⟨q,i,none⟩=some (.slice a n c)):StT (w.setCell ⟨q,i,none⟩ u) B v l:=by
 obtain⟨T,h1,h2,h3⟩:=h;exact⟨T,h1,OwnK.onlyQ h2 (Only.set (a:=w) (B:=q) i u) hq,fun t ht=>(h3 t ht).slotN (Zhw _ a n c) hc⟩
theorem Rd.offX {w w':World} {g:Nat} {t:TypeId} {cs:Array Value} {v:Value} {xs:List Value}(h:Rd w v xs)(hg:Blk w g t cs)(hx:∀x∈xs,∀i:Nat,cs[i]?≠some x)(ho:∀i,i≠g→w'.heap[i]? =w.heap[i]?):Rd w' v xs:=by
 obtain⟨a',cap,h1,h2,h3,h4|⟨b,off,h4,h6⟩⟩:=h
 ·exact⟨a',cap,h1,h2,h3,.inl h4⟩
 ·refine⟨a',cap,h1,h2,h3,.inr ⟨b,off,h4,fun j x hj=> ?_⟩⟩;have h7:=h6 j x hj
  by_cases e:b=g
  ·subst e;rw[hg.cell]at h7;exact absurd h7 (hx x (gL hj) _)
  ·rw[World.cell?_of_block (w:=w) (ho b e)];exact h7
theorem Rd.offN {w w':World} {g:Nat} {v:Value} {xs:List Value}(h:Rd w v xs)(hne:∀b off n c,v=.slice (some ⟨b,off,none⟩) n c→b≠g)(ho:∀i,i≠g→w'.heap[i]? =w.heap[i]?):Rd w' v xs:=by
 obtain⟨a',cap,h1,h2,h3,h4|⟨b,off,h4,h6⟩⟩:=h
 ·exact⟨a',cap,h1,h2,h3,.inl h4⟩
 ·refine⟨a',cap,h1,h2,h3,.inr ⟨b,off,h4,fun j x hj=> ?_⟩⟩;rw[World.cell?_of_block (w:=w) (ho b (hne b off _ _ (by rw[h1,h4])))];exact h6 j x hj
theorem Zed {cs:Array Value}(h:∀(i:Nat) k,cs[i]?≠some (.int .u8 k))(L:List Nat):∀x∈bvs L,∀i:Nat,cs[i]?≠some x:=by
 intro x hx i e;obtain⟨y,-,rfl⟩:=List.mem_map.1 (show x∈L.map fun n:Nat=>Value.int .u8 (n:Int)from hx);exact h i _ e
theorem Zee {w w':World} {g B:Nat} {t:TypeId} {cs:Array Value} {d:NodeD} {c:Array Value}(h:NodeC w d c)(hn:LateNew B c)(hgB:g<B)(hg:Blk w g t cs)(hu:∀(i:Nat) k,cs[i]?≠some (.int .u8 k))(ho:∀i,i≠g→w'.heap[i]? =w.heap[i]?):NodeC w' d c:=by
 obtain⟨a1,c1,a2,c2,a3,c3,a4,c4,a5,c5,b1,e1,b2,e2,b3,e3,rfl,h1,h2,h3,h4,h5,h6,h7,h8⟩:=h;have B:=Zed hu;refine⟨a1,c1,a2,c2,a3,c3,a4,c4,a5,c5,b1,e1,b2,e2,b3,e3,rfl,h1.offX hg (B _) ho,h2.offX hg (B _) ho,h3.offX hg (B _) ho,h4.offX hg (B _) ho,h5.offX hg (B _) ho,h6.offX hg (B _) ho,h7.offX hg (B _) ho,h8.offN (fun b off n cp e=> ?_) ho⟩;have:=hn b off n cp (by rw[←e];rfl);omega
theorem SpT.offG {w w':World} {g B:Nat} {t:TypeId} {cs:Array Value} {v:Value} {l:List (Int×NodeD)}(h:SpT w B v l)(hgB:g<B)(hg:Blk w g t cs)(hu:∀(i:Nat) k,cs[i]?≠some (.int .u8 k))(hb:∀B,B≤g→Below B w w')(ho:∀i,i≠g→w'.heap[i]? =w.heap[i]?):SpT w' B v l:=by
 obtain⟨T,h1,h2,h3⟩:=h;exact⟨T,h1,OwnK.onlyQ h2 (Only.storeQ hb ho) hgB,fun t ht=>⟨Zee (h3 t ht).1 (h3 t ht).2 hgB hg hu ho,(h3 t ht).2⟩⟩
theorem StT.offG {w w':World} {g B:Nat} {t:TypeId} {cs:Array Value} {v:Value} {l:List (Int×List Nat)}(h:StT w B v l)(hgB:g<B)(hg:Blk w g t cs)(hu:∀(i:Nat) k,cs[i]?≠some (.int .u8 k))(hb:∀B,B≤g→Below B w w')(ho:∀i,i≠g→w'.heap[i]? =w.heap[i]?):StT w' B v l:=by
 obtain⟨T,h1,h2,h3⟩:=h;exact⟨T,h1,OwnK.onlyQ h2 (Only.storeQ hb ho) hgB,fun t ht=>(h3 t ht).offX hg (Zed hu _) ho⟩
def Zkk (r:Nat×SparseD)(w:World)(e:Ending)(w':World):Prop:=
 ∃o s,e=.returned (.tuple #[.agg #[.int .i64 r.2.leaves,.int .i64 r.2.own,o,s],.int .i64 (r.1:Nat)])∧SpT w' w.heap.size o r.2.op∧StT w' w.heap.size s r.2.sh∧Below w.heap.size w w'
theorem Yf (v:Value) (L:List Nat) (c mk n i:Nat) (rd:RdR) (only:Bool) (r:Nat×SparseD) (w:World) (h:Rd w v (bvs L)) (hl:L.length≤4000) (hmk:only=decide (mk=2)) (hm:mk<256)
  (hk:0<L.length→(bvs L)[0]? =some (.int .u8 (c:Nat))) (hc:c<256)
  (C1:5≤L.length→∀W,Below w.heap.size w W→Calls Tryz.prog 68 #[v,.int .i64 1] W fun e w'=>e=.returned (.int .i64 (n:Nat))∧Below W.heap.size W w')
  (C5:9≤L.length→∀W,Below w.heap.size w W→Calls Tryz.prog 68 #[v,.int .i64 5] W fun e w'=>e=.returned (.int .i64 (i:Nat))∧Below W.heap.size W w')
  (CR:9≤L.length→fits n=true→∀W,Below w.heap.size w W→Calls Tryz.prog 70 #[v,.int .i64 9,.int .i64 ((n:Int)-1)] W (Zgs L rd W))
  (CA:9≤L.length→fits n=true→i<n→rd.er=0→∀v' W,SparseR W v' ⟨n,i,rd.op,rd.sh⟩→Calls Tryz.prog 62 #[v',.bool only] W fun e w'=>e=.returned (.bool (Az ⟨n,i,rd.op,rd.sh⟩ only))∧Below W.heap.size W w')
  (hn:n<4294967296) (hi:i<4294967296)
  (X1:L.length<1→r=(4,Ex)) (XM:0<L.length→c≠mk→r=(3,Ex)) (X5:0<L.length→c=mk→L.length<5→r=(4,Ex))
  (XF:c=mk→5≤L.length→fits n=false→r=(3,Ex)) (X9:c=mk→5≤L.length→fits n=true→L.length<9→r=(4,Ex))
  (XI:c=mk→9≤L.length→fits n=true→n≤i→r=(3,Ex)) (XE:c=mk→9≤L.length→fits n=true→i<n→rd.er≠0→r=(rd.er,Ex))
  (XT:c=mk→9≤L.length→fits n=true→i<n→rd.er=0→L.length-rd.rest.length<L.length→r=(5,Ex))
  (XB:c=mk→9≤L.length→fits n=true→i<n→rd.er=0→¬(L.length-rd.rest.length<L.length)→∀b,Az ⟨n,i,rd.op,rd.sh⟩ only=b→r=if b=true then(0,⟨n,i,rd.op,rd.sh⟩)else(3,Ex)):
  Calls Tryz.prog 23 #[v,.int .u8 (mk:Nat)] w (Zkk r w):=by
 obtain⟨av,cap,rfl,-,-⟩:=id h;rw[bvs_len]at h C1 C5 CR⊢;obtain⟨ln,hln⟩:=eX L.length;have HLN:=Hd hln;rw[←hln]at h hl C1 C5 CR CA hk X1 XM X5 XF X9 XI XE XT XB⊢;obtain⟨g,hg⟩:=eX w.heap.size;have HG:=Hd hg;obtain⟨w0,hw0⟩:=eX (w.alloc (.cells #[.int .i64 0,.int .i64 0,.slice none 0 0,.slice none 0 0] 25));have HW0:=Hd hw0;have G0:=Hd (show Blk w0 g 25 #[.int .i64 0,.int .i64 0,.slice none 0 0,.slice none 0 0] by rw[hw0,hg];exact Blk.new _ _ _);have B0:=Hd (show Below w.heap.size w w0 by rw[hw0];exact bR.alloc lR _);have HRD:=Hd h;have HC1:=Hd C1;have HC5:=Hd C5;have HCR:=Hd CR;have HCA:=Hd CA;have HX1:=Hd X1;have HXM:=Hd XM;have HX5:=Hd X5;have HXF:=Hd XF;have HX9:=Hd X9;have HXI:=Hd XI;have HXE:=Hd XE;have HXT:=Hd XT;have HXB:=Hd XB;have HSB:=Hd hk;have HMK:=Hd hmk;have hbig:decide ((ln:Int)>1048576)=false:=decide_eq_false (by omega);obtain⟨S,hS⟩:=eX (Zkk r w);rw[←hS];have HSN:=Hd (show∀(e:Ending) (w':World) {k:Nat},e=.returned (.tuple #[.agg #[.int .i64 0,.int .i64 0,.slice none 0 0,.slice none 0 0],.int .i64 (k:Nat)])→r=(k,Ex)→Below w.heap.size w w'→S e w' from by
  rintro e w' k rfl rfl h2;rw[hS];exact⟨_,_,rfl,SpT.nil _ _,StT.nil _ _,h2⟩)
 have HSY:=Hd (show∀(e:Ending) (w':World) {o s:Value},e=.returned (.tuple #[.agg #[.int .i64 (n:Nat),.int .i64 (i:Nat),o,s],.int .i64 0])→r=(0,⟨n,i,rd.op,rd.sh⟩)→SpT w' w.heap.size o rd.op→StT w' w.heap.size s rd.sh→Below w.heap.size w w'→S e w' from by
  rintro e w' o s rfl rfl h1 h2 h3;rw[hS];exact⟨_,_,rfl,h1,h2,h3⟩)
 clear h hk C1 C5 CR CA X1 XM X5 XF X9 XI XE XT XB hS hln hg hw0 hmk
 by_cases h1:ln<1
 ·have h1a:decide ((ln:Int)<1)=true:=decide_eq_true (by omega);have h1b:decide (ln<1)=true:=decide_eq_true h1;have HX:=Hd (HX1.out h1);clear h1;go_enter Tryz.func23,Tryz.ntmps23;go_wp2_with (refine Aa rfl 25 (.tmp 4) (.tmp 18) rfl w.heap.size #[.int .i64 0,.int .i64 0,.slice none 0 0,.slice none 0 0] rfl rfl 25 #[.int .i64 0,.int .i64 0,.slice none 0 0,.slice none 0 0] (by rw[←HW0.out,←HG.out];exact G0.out) (by kernel_rfl) rfl rfl ?_);rintro w9 hblk hbl hoth hsize;have P9:=Hd hblk;have B9:=Hd (B0.out.trans (by rw[HW0.out];exact hbl w.heap.size lR));clear hblk hbl hoth hsize;go_wp2_with fail;refine bodyPost_ret (v:=.tuple #[.agg #[.int .i64 0,.int .i64 0,.slice none 0 0,.slice none 0 0],.int .i64 4]) (Af Tryz.results23 _ _ w.heap.size _ _ _ rfl P9.out Tryz.underlying25 rfl (by kernel_rfl)) rfl ?_;exact HSN.out _ _ rfl HX.out B9.out
 ·have h1a:decide ((ln:Int)<1)=false:=decide_eq_false (by omega);have h1b:decide (ln<1)=false:=decide_eq_false h1;have HN:=Hd (show 0<ln by omega);obtain⟨vb,vo,rfl,hvb,hc0⟩:=HRD.out.get (HSB.out (by omega));simp only[Nat.add_zero]at hc0;have hpos:0<ln:=(by omega);clear h1
  by_cases hm2:c=mk
  ·have hq:((c:Int) !=(mk:Int))=false:=(by rw[bne_eq_false_iff_eq];omega);have HMC:=Hd hm2;clear hm2
   by_cases h5:ln<5
   ·have h5a:decide ((ln:Int)<5)=true:=decide_eq_true (by omega);have h5b:decide (ln<5)=true:=decide_eq_true h5;have HX:=Hd (HX5.out HN.out HMC.out h5);clear h5;go_enter Tryz.func23,Tryz.ntmps23;go_wp2_with (refine Aa rfl 25 (.tmp 4) (.tmp 28) rfl w.heap.size #[.int .i64 0,.int .i64 0,.slice none 0 0,.slice none 0 0] rfl rfl 25 #[.int .i64 0,.int .i64 0,.slice none 0 0,.slice none 0 0] (by rw[←HW0.out,←HG.out];exact G0.out) (by kernel_rfl) rfl rfl ?_);rintro w9 hblk hbl hoth hsize;have P9:=Hd hblk;have B9:=Hd (B0.out.trans (by rw[HW0.out];exact hbl w.heap.size lR));clear hblk hbl hoth hsize;go_wp2_with fail;refine bodyPost_ret (v:=.tuple #[.agg #[.int .i64 0,.int .i64 0,.slice none 0 0,.slice none 0 0],.int .i64 4]) (Af Tryz.results23 _ _ w.heap.size _ _ _ rfl P9.out Tryz.underlying25 rfl (by kernel_rfl)) rfl ?_;exact HSN.out _ _ rfl HX.out B9.out
   ·have h5a:decide ((ln:Int)<5)=false:=decide_eq_false (by omega);have h5b:decide (ln<5)=false:=decide_eq_false h5;have HL5:=Hd (show 5≤ln by omega);go_enter Tryz.func23,Tryz.ntmps23;go_wp2_with fail;rw[←HW0.out,←HG.out];refine(HC1.out HL5.out w0 B0.out).mono ?_;rintro e w1 ⟨rfl,hb⟩;have B1:=Hd (B0.out.trans (hb.mono B0.out.size));have G1:=Hd (G0.out.below hb G0.out.lt);clear hb hc0 hvb;go_wp2_with (refine Aa rfl 25 (.tmp 6) (.tmp 31) rfl w1.heap.size #[.int .i64 (n:Nat),.int .i64 0,.slice none 0 0,.slice none 0 0] rfl rfl 25 #[.int .i64 0,.int .i64 0,.slice none 0 0,.slice none 0 0] (Blk.new _ _ _) (by kernel_rfl) rfl rfl ?_);rintro w2 hblk hbl hoth hsize;have hb:Below w1.heap.size w1 w2:=(bR.alloc lR _).trans (hbl _ lR);obtain⟨q,hq⟩:=eX w1.heap.size;have HGQ:=Hd (show g<q by rw[hq];exact G1.out.lt);rw[←hq]at hblk⊢;have Q2:=Hd hblk;have B2:=Hd (B1.out.trans (hb.mono B1.out.size));have G2:=Hd (G1.out.below hb G1.out.lt);clear hblk hbl hoth hsize hb hq;have y0:=Q2.out.cell 0;simp only[bK,bL]at y0;go_wp2_with fail;refine(Jg (n:Int) w2).mono ?_;rintro e w' ⟨rfl,rfl⟩;obtain⟨ft,hft⟩:=eX (fits n);rw[Int.toNat_natCast,←hft];have HFT:=Hd hft.symm;clear hft;cases ft with
    |false=>
     go_wp2_with (refine Aa rfl 25 (.tmp 4) (.tmp 36) rfl g #[.int .i64 0,.int .i64 0,.slice none 0 0,.slice none 0 0] rfl rfl 25 #[.int .i64 0,.int .i64 0,.slice none 0 0,.slice none 0 0] G2.out (by kernel_rfl) rfl rfl ?_);rintro w9 hblk hbl hoth hsize;have P9:=Hd hblk;have B9:=Hd (B2.out.trans (hbl w.heap.size (by rw[HG.out];exact lR)));clear hblk hbl hoth hsize;go_wp2_with fail;refine bodyPost_ret (v:=.tuple #[.agg #[.int .i64 0,.int .i64 0,.slice none 0 0,.slice none 0 0],.int .i64 3]) (Af Tryz.results23 _ _ g _ _ _ rfl P9.out Tryz.underlying25 rfl (by kernel_rfl)) rfl ?_;exact HSN.out _ _ rfl (HXF.out HMC.out HL5.out HFT.out) B9.out
    |true=>
     by_cases h9:ln<9
     ·have h9a:decide ((ln:Int)<9)=true:=decide_eq_true (by omega);have h9b:decide (ln<9)=true:=decide_eq_true h9;have HX:=Hd (HX9.out HMC.out HL5.out HFT.out h9);clear h9;go_wp2_with (refine Aa rfl 25 (.tmp 4) (.tmp 40) rfl g #[.int .i64 0,.int .i64 0,.slice none 0 0,.slice none 0 0] rfl rfl 25 #[.int .i64 0,.int .i64 0,.slice none 0 0,.slice none 0 0] G2.out (by kernel_rfl) rfl rfl ?_);rintro w9 hblk hbl hoth hsize;have P9:=Hd hblk;have B9:=Hd (B2.out.trans (hbl w.heap.size (by rw[HG.out];exact lR)));clear hblk hbl hoth hsize;go_wp2_with fail;refine bodyPost_ret (v:=.tuple #[.agg #[.int .i64 0,.int .i64 0,.slice none 0 0,.slice none 0 0],.int .i64 4]) (Af Tryz.results23 _ _ g _ _ _ rfl P9.out Tryz.underlying25 rfl (by kernel_rfl)) rfl ?_;exact HSN.out _ _ rfl HX.out B9.out
     ·have h9a:decide ((ln:Int)<9)=false:=decide_eq_false (by omega);have h9b:decide (ln<9)=false:=decide_eq_false h9;have HL9:=Hd (show 9≤ln by omega);clear h9;go_wp2_with fail;refine(HC5.out HL9.out w2 B2.out).mono ?_;rintro e w3 ⟨rfl,hb⟩;have B3:=Hd (B2.out.trans (hb.mono B2.out.size));have G3:=Hd (G2.out.below hb G2.out.lt);have Q3:=Hd (Q2.out.below hb Q2.out.lt);clear hb y0;have y0:=Q3.out.cell 0;have y1:=Q3.out.cell 1;have z1:=Q3.out.frozen 1;simp only[bK,bL,bM]at y0 y1;obtain⟨w4,hw4⟩:=eX (w3.setCell ⟨q,1,none⟩ (.int .i64 (i:Nat)));have HW4:=Hd hw4;have Q4:=Hd (show Blk w4 q 25 #[.int .i64 (n:Nat),.int .i64 (i:Nat),.slice none 0 0,.slice none 0 0] by rw[hw4];simpa using Q3.out.set 1 (.int .i64 (i:Nat)));have G4:=Hd (show Blk w4 g 25 #[.int .i64 0,.int .i64 0,.slice none 0 0,.slice none 0 0] by rw[hw4];exact G3.out.far (p:=⟨q,1,none⟩) (by have:=HGQ.out;simp only;omega) _);have HGW:=Hd (show g<w4.heap.size from G4.out.lt);have B4:=Hd (show Below w.heap.size w w4 by rw[hw4];exact B3.out.setCell (p:=⟨q,1,none⟩) (by have:=HGQ.out;have:=HG.out;simp only;omega) _);clear hw4
      by_cases hin:i<n
      ·have hda:decide ((i:Int)≥(n:Int))=false:=decide_eq_false (by omega);have hdb:decide ((n:Int)≤(i:Int))=false:=decide_eq_false (by omega);have hdc:decide (n≤i)=false:=decide_eq_false (by omega);have HIN:=Hd hin;clear hin;go_wp2_with fail;rw[←HW4.out];refine(HCR.out HL9.out HFT.out w4 B4.out).mono ?_;rintro e w5 ⟨o,s,nx,rfl,hnx,ho,hs,hb⟩;have B5:=Hd (B4.out.trans (hb.mono B4.out.size));have G5:=Hd (G4.out.below hb G4.out.lt);have Q5:=Hd (Q4.out.below hb Q4.out.lt);have HO5:=Hd ho;have HS5:=Hd hs;have HQ4:=Hd (show q<w4.heap.size from Q4.out.lt);have HSR:=Hd (show SparseR w5 (.agg #[.int .i64 (n:Nat),.int .i64 (i:Nat),o,s]) ⟨n,i,rd.op,rd.sh⟩from⟨_,_,rfl,ho.spots,hs.stubs⟩);obtain⟨oa,oc,rfl,-,-⟩:=ho.spots.sl;obtain⟨sa,sc,rfl,-,-⟩:=hs.stubs.sl;obtain⟨on,hon⟩:=eX rd.op.length;obtain⟨sn,hsn⟩:=eX rd.sh.length;rw[←hon,←hsn]at HSR;rw[←hon]at HO5;rw[←hsn]at HS5;rw[←hon,←hsn];obtain⟨er,her⟩:=eX rd.er;rw[←her]at hnx⊢;have HER:=Hd her;have HNX:=Hd hnx;clear hb ho hs her hnx hon hsn y0 y1 z1 hda hdb hdc
       by_cases he:er=0
       ·have HE:=Hd (show rd.er=0 by rw[←HER.out];exact he);have heb:((er:Int) !=0)=false:=(by rw[bne_eq_false_iff_eq];omega);have e5:=HNX.out he;obtain⟨nl,hnl⟩:=eX (ln-rd.rest.length);rw[←HLN.out,←hnl]at e5;subst e5;have HNL:=Hd hnl;clear he hnl
        by_cases hnn:nl<ln
        ·have g1:decide ((nl:Int)<(ln:Int))=true:=decide_eq_true (by omega);have g2:decide (nl<ln)=true:=decide_eq_true hnn;have HX:=Hd (HXT.out HMC.out HL9.out HFT.out HIN.out HE.out (by rw[←HNL.out];exact hnn));clear hnn;go_wp2_with (refine Aa rfl 25 (.tmp 4) (.tmp 68) rfl g #[.int .i64 0,.int .i64 0,.slice none 0 0,.slice none 0 0] rfl rfl 25 #[.int .i64 0,.int .i64 0,.slice none 0 0,.slice none 0 0] G5.out (by kernel_rfl) rfl rfl ?_);rintro w9 hblk hbl hoth hsize;have P9:=Hd hblk;have B9:=Hd (B5.out.trans (hbl w.heap.size (by rw[HG.out];exact lR)));clear hblk hbl hoth hsize;go_wp2_with fail;refine bodyPost_ret (v:=.tuple #[.agg #[.int .i64 0,.int .i64 0,.slice none 0 0,.slice none 0 0],.int .i64 5]) (Af Tryz.results23 _ _ g _ _ _ rfl P9.out Tryz.underlying25 rfl (by kernel_rfl)) rfl ?_;exact HSN.out _ _ rfl HX.out B9.out
        ·have g1:decide ((nl:Int)<(ln:Int))=false:=decide_eq_false (by omega);have g2:decide (nl<ln)=false:=decide_eq_false hnn;have HX:=Hd (HXB.out HMC.out HL9.out HFT.out HIN.out HE.out (by rw[←HNL.out];exact hnn));clear hnn;have y2:=Q5.out.cell 2;have z2:=Q5.out.frozen 2;have y3:=Q5.out.cell 3;have z3:=Q5.out.frozen 3;simp only[bK,bL,bM]at y2 y3;obtain⟨w6,hw6⟩:=eX ((w5.setCell ⟨q,2,none⟩ (.slice oa on oc)).setCell ⟨q,3,none⟩ (.slice sa sn sc));have HW6:=Hd hw6;have hb56:Only q w5 w6:=(by rw[hw6];exact(Only.set (a:=w5) (B:=q) 2 _).trans (Only.set 3 _));have Q6:=Hd (show Blk w6 q 25 #[.int .i64 (n:Nat),.int .i64 (i:Nat),.slice oa on oc,.slice sa sn sc] by rw[hw6];simpa using(Q5.out.set 2 (.slice oa on oc)).set 3 (.slice sa sn sc));have G6:=Hd (G5.out.only hb56 (by have:=HGQ.out;omega));have B6:=Hd (B5.out.trans (hb56.below (C:=w.heap.size) (by have:=HGQ.out;have:=HG.out;omega) B5.out.size));have y3b:=(Q5.out.set 2 (.slice oa on oc)).cell 3;simp only[Array.setIfInBounds,List.size_toArray,List.length_cons,List.length_nil]at y3b;have HO6:=Hd (show SpT w6 w4.heap.size (.slice oa on oc) rd.op by rw[hw6];exact(HO5.out.slotN HQ4.out y2).slotN HQ4.out (by simpa using y3b));have HT6:=Hd (show StT w6 w4.heap.size (.slice sa sn sc) rd.sh by rw[hw6];exact(HS5.out.slotN HQ4.out y2).slotN HQ4.out (by simpa using y3b));have HS6:=Hd (show SparseR w6 (.agg #[.int .i64 (n:Nat),.int .i64 (i:Nat),.slice oa on oc,.slice sa sn sc]) ⟨n,i,rd.op,rd.sh⟩from⟨_,_,rfl,HO6.out.spots,HT6.out.stubs⟩);clear hw6 hb56 y3b;have HA:=Hd (HCA.out HL9.out HFT.out HIN.out HE.out _ w6 HS6.out);obtain⟨ans,hans⟩:=eX (Az ⟨n,i,rd.op,rd.sh⟩ only);rw[←hans]at HA;have HX2:=Hd (HX.out ans hans.symm);have hmo:((mk:Int)==2)=only:=(by rw[HMK.out];by_cases e:mk=2<;>simp[e];omega);clear hans;go_wp2_with (refine Ai rfl 25 (.tmp 6) rfl q rfl 25 #[.int .i64 (n:Nat),.int .i64 (i:Nat),.slice oa on oc,.slice sa sn sc] (0,0) _ (by rw[←HW6.out];exact Q6.out) Tryz.underlying25 rfl (by kernel_rfl) ?_);rw[←HW6.out];refine HA.out.mono ?_;rintro e w7 ⟨rfl,hb⟩;have B7:=Hd (B6.out.trans (hb.mono B6.out.size));have G7:=Hd (G6.out.below hb G6.out.lt);have Q7:=Hd (Q6.out.below hb Q6.out.lt);have HO7:=Hd (HO6.out.below hb lR);have HT7:=Hd (HT6.out.below hb lR);clear hb y2 y3 z2 z3 hmo;cases ans with
         |false=>
          go_wp2_with (refine Aa rfl 25 (.tmp 4) (.tmp 78) rfl g #[.int .i64 0,.int .i64 0,.slice none 0 0,.slice none 0 0] rfl rfl 25 #[.int .i64 0,.int .i64 0,.slice none 0 0,.slice none 0 0] G7.out (by kernel_rfl) rfl rfl ?_);rintro w9 hblk hbl hoth hsize;have P9:=Hd hblk;have B9:=Hd (B7.out.trans (hbl w.heap.size (by rw[HG.out];exact lR)));clear hblk hbl hoth hsize;go_wp2_with fail;refine bodyPost_ret (v:=.tuple #[.agg #[.int .i64 0,.int .i64 0,.slice none 0 0,.slice none 0 0],.int .i64 3]) (Af Tryz.results23 _ _ g _ _ _ rfl P9.out Tryz.underlying25 rfl (by kernel_rfl)) rfl ?_;exact HSN.out _ _ rfl HX2.out B9.out
         |true=>
          go_wp2_with (first
           |(refine Ai rfl 25 (.tmp 6) rfl q rfl 25 #[.int .i64 (n:Nat),.int .i64 (i:Nat),.slice oa on oc,.slice sa sn sc] (0,0) _ Q7.out Tryz.underlying25 rfl (by kernel_rfl) ?_)
           |(refine Aa rfl 25 (.tmp 4) (.tmp 79) rfl g #[.int .i64 (n:Nat),.int .i64 (i:Nat),.slice oa on oc,.slice sa sn sc] rfl rfl 25 #[.int .i64 0,.int .i64 0,.slice none 0 0,.slice none 0 0] G7.out (by kernel_rfl) rfl rfl ?_))
          rintro w11 hblk hbl hoth hsize;have P11:=Hd hblk;have hu:∀(i:Nat) k,(#[.int .i64 0,.int .i64 0,.slice none 0 0,.slice none 0 0]:Array Value)[i]?≠some (.int .u8 k):=by intro i k;rcases i with _|_|_|_|i<;>simp
          have HO11:=Hd ((HO7.out.offG HGW.out G7.out hu hbl hoth).mono B4.out.size);have HT11:=Hd ((HT7.out.offG HGW.out G7.out hu hbl hoth).mono B4.out.size);clear hu;have B11:=Hd (B7.out.trans (hbl w.heap.size (by rw[HG.out];exact lR)));clear hblk hbl hoth hsize;go_wp2_with fail;refine bodyPost_ret (v:=.tuple #[.agg #[.int .i64 (n:Nat),.int .i64 (i:Nat),.slice oa on oc,.slice sa sn sc],.int .i64 0]) (Af Tryz.results23 _ _ g _ _ _ rfl P11.out Tryz.underlying25 rfl (by kernel_rfl)) rfl ?_;exact HSY.out _ _ rfl HX2.out HO11.out HT11.out B11.out
       ·have HNE:=Hd he;have heb:((er:Int) !=0)=true:=(by rw[bne_iff_ne];omega);have HX:=Hd (HXE.out HMC.out HL9.out HFT.out HIN.out (by rw[←HER.out];exact he));rw[←HER.out]at HX;clear he;go_wp2_with (refine Aa rfl 25 (.tmp 4) (.tmp 62) rfl g #[.int .i64 0,.int .i64 0,.slice none 0 0,.slice none 0 0] rfl rfl 25 #[.int .i64 0,.int .i64 0,.slice none 0 0,.slice none 0 0] G5.out (by kernel_rfl) rfl rfl ?_);rintro w9 hblk hbl hoth hsize;have P9:=Hd hblk;have B9:=Hd (B5.out.trans (hbl w.heap.size (by rw[HG.out];exact lR)));clear hblk hbl hoth hsize;go_wp2_with fail;refine bodyPost_ret (v:=.tuple #[.agg #[.int .i64 0,.int .i64 0,.slice none 0 0,.slice none 0 0],.int .i64 (er:Nat)]) (Af Tryz.results23 _ _ g _ _ _ rfl P9.out Tryz.underlying25 rfl (by kernel_rfl)) rfl ?_;exact HSN.out _ _ rfl HX.out B9.out
      ·have hda:decide ((i:Int)≥(n:Int))=true:=decide_eq_true (by omega);have hdb:decide ((n:Int)≤(i:Int))=true:=decide_eq_true (by omega);have hdc:decide (n≤i)=true:=decide_eq_true (by omega);have HX:=Hd (HXI.out HMC.out HL9.out HFT.out (by omega));clear hin;go_wp2_with (refine Aa rfl 25 (.tmp 4) (.tmp 49) rfl g #[.int .i64 0,.int .i64 0,.slice none 0 0,.slice none 0 0] rfl rfl 25 #[.int .i64 0,.int .i64 0,.slice none 0 0,.slice none 0 0] (by rw[←HW4.out];exact G4.out) (by kernel_rfl) rfl rfl ?_);rintro w9 hblk hbl hoth hsize;have P9:=Hd hblk;have B9:=Hd (B4.out.trans (by rw[HW4.out];exact hbl w.heap.size (by rw[HG.out];exact lR)));clear hblk hbl hoth hsize;go_wp2_with fail;refine bodyPost_ret (v:=.tuple #[.agg #[.int .i64 0,.int .i64 0,.slice none 0 0,.slice none 0 0],.int .i64 3]) (Af Tryz.results23 _ _ g _ _ _ rfl P9.out Tryz.underlying25 rfl (by kernel_rfl)) rfl ?_;exact HSN.out _ _ rfl HX.out B9.out
  ·have hq:((c:Int) !=(mk:Int))=true:=(by rw[bne_iff_ne];omega);have HX:=Hd (HXM.out HN.out hm2);clear hm2;go_enter Tryz.func23,Tryz.ntmps23;go_wp2_with (refine Aa rfl 25 (.tmp 4) (.tmp 24) rfl w.heap.size #[.int .i64 0,.int .i64 0,.slice none 0 0,.slice none 0 0] rfl rfl 25 #[.int .i64 0,.int .i64 0,.slice none 0 0,.slice none 0 0] (by rw[←HW0.out,←HG.out];exact G0.out) (by kernel_rfl) rfl rfl ?_);rintro w9 hblk hbl hoth hsize;have P9:=Hd hblk;have B9:=Hd (B0.out.trans (by rw[HW0.out];exact hbl w.heap.size lR));clear hblk hbl hoth hsize;go_wp2_with fail;refine bodyPost_ret (v:=.tuple #[.agg #[.int .i64 0,.int .i64 0,.slice none 0 0,.slice none 0 0],.int .i64 3]) (Af Tryz.results23 _ _ w.heap.size _ _ _ rfl P9.out Tryz.underlying25 rfl (by kernel_rfl)) rfl ?_;exact HSN.out _ _ rfl HX.out B9.out
end Go.Proofs.YtfofaiommeckbaaGreat
