/- Plain: what the bytes of a sparse tree are read as, and that it has rising places and right nodes. -/
import Derived.Test.YtfofaiommeckbaaGreatZSliceReadsB
import Derived.Test.YtfofaiommeckbaaGreatZSliceReads45
import Derived.Test.YtfofaiommeckbaaGreatZSliceReads41
open List renaming length_nil → bI, length_cons → bO, length_drop → dE, mem_singleton → eY, length_append → aG, getElem?_toArray → bK, getElem?_cons_zero → bL, getElem?_cons_succ → bM, drop_drop → gG, getElem?_append_left → gH, getD_eq_getElem?_getD → aH, getElem?_append_right → gI
open Nat renaming pow_zero → gJ, zero_le → aA
set_option linter.unusedVariables false
set_option maxRecDepth 100000
set_option maxHeartbeats 40000000
namespace Go.Proofs.YtfofaiommeckbaaGreat
open Go.RowKit WalkM WireM
structure RdR where
 er:Nat
 op:List (Int×NodeD)
 sh:List (Int×List Nat)
 rest:List Nat
def If (e:Nat):RdR:=⟨e,[],[],[]⟩
def Jv (x:Nat)(M:List Nat)(K:NodeD→List Nat→RdR):RdR:=
 if(Av M 0).1≠0 then If (Av M 0).1 else
 if x%2=0∧(Av M 0).2.1.kind=2∨x%2=1∧(Av M 0).2.1.kind=1 then If 3 else K (Av M 0).2.1 (Av M 0).2.2.1
def Rm (x:Nat)(L:List Nat)(K:NodeD→List Nat→RdR):RdR:=
 match L with
 |[]=>If 4
 |b::M=>if 1<b then If 3 else if b=0 then(if M.length<32 then If 4 else⟨0,[],[((x:Int),M.take 32)],M.drop 32⟩)else Jv x M K
def Ll (x:Nat)(d:NodeD)(l:RdR)(r:RdR):RdR:=
 if l.er≠0 then If l.er else if r.er≠0 then If r.er else⟨0,l.op++((x:Int),d)::r.op,l.sh++r.sh,r.rest⟩
def rdP:Nat→Nat→List Nat→RdR
 |0,x,L=>Rm x L fun d R=>⟨0,[((x:Int),d)],[],R⟩
 |k+1,x,L=>Rm x L fun d R=>Ll x d (rdP k (x-2^k) R) (rdP k (x+2^k) (rdP k (x-2^k) R).rest)
structure RdOk (L:List Nat) (lo hi:Int) (r:RdR):Prop where
 sub:Sub r.rest L
 len:r.op.length+r.sh.length+r.rest.length≤L.length
 opIn:∀p∈r.op,lo<p.1∧p.1<hi
 shIn:∀p∈r.sh,lo<p.1∧p.1<hi
 opUp:r.op.Pairwise fun p q=>p.1<q.1
 shUp:r.sh.Pairwise fun p q=>p.1<q.1
 node:∀p∈r.op,Aq p.2=true∧4*p.2.par.late.length≤L.length∧((∀n∈L,n<256)→NodeOk p.2)
 hash:∀p∈r.sh,p.2.length=32∧Sub p.2 L
theorem Ya {α:Type} {R: α→α→Prop} {l m:List α}(hl:l.Pairwise R)(hm:m.Pairwise R)(h:∀a∈l,∀b∈m,R a b):(l++m).Pairwise R:=List.pairwise_append.2 ⟨hl,hm,h⟩
theorem Zdp {x:Nat} {L:List Nat} {K:NodeD→List Nat→RdR} {lo hi:Int} (h0:lo<x) (h1:(x:Int)<hi) (h:(Rm x L K).er=0)
  (hK:∀M d R,TkOk M d R→L.length=M.length+1→(K d R).er=0→RdOk M lo hi (K d R)):RdOk L lo hi (Rm x L K):=by
 unfold Rm at h⊢;cases L with
 |nil=>cases h
 |cons b M=>
  have hs:Sub M (b::M):=⟨by simp,fun x hx=>List.mem_cons_of_mem _ hx⟩;simp only at h⊢
  by_cases c1:1<b
  ·rw[if_pos c1]at h;cases h
  ·rw[if_neg c1]at h⊢
   by_cases c2:b=0
   ·rw[if_pos c2]at h⊢
    by_cases c3:M.length<32
    ·rw[if_pos c3]at h;cases h
    ·rw[if_neg c3];exact⟨(Sub.drop _ _).trans hs,by simp only[bI,bO,dE];omega,fun p hp=>(by simp at hp),fun p hp=>by simp only[eY]at hp;rw[hp];exact⟨h0,h1⟩,List.Pairwise.nil,by simp,fun p hp=>(by simp at hp),fun p hp=>by simp only[eY]at hp;rw[hp];exact⟨by simp only[List.length_take];omega,(Sub.take _ _).trans hs⟩⟩
   ·rw[if_neg c2]at h⊢;unfold Jv at h⊢
    by_cases c3:(Av M 0).1≠0
    ·rw[if_pos c3]at h;exact absurd h c3
    ·rw[if_neg c3]at h⊢;have hk:=Tr (L:=M) (by omega)
     split at h
     ·cases h
     ·rename_i c4
      rw[if_neg c4];obtain⟨a1,a2,a3,a4,a5,a6,a7,a8⟩:=hK M _ _ hk.2 (by simp) h;exact⟨a1.trans hs,by simp only[bO];omega,a3,a4,a5,a6,fun p hp=>⟨(a7 p hp).1,by have:=(a7 p hp).2.1;simp only[bO];omega,fun hL=>(a7 p hp).2.2 fun n hn=>hL n (hs.2 n hn)⟩,fun p hp=>⟨(a8 p hp).1,(a8 p hp).2.trans hs⟩⟩
theorem Tt:∀k x (L:List Nat),2^k≤x+1→(rdP k x L).er=0→RdOk L ((x:Int)-((2^k:Nat):Int)) ((x:Int)+((2^k:Nat):Int)) (rdP k x L):=by
 intro k
 induction k with
 |zero=>
  intro x L hx h;unfold rdP at h⊢;refine Zdp (by simp only[gJ];omega) (by simp only[gJ];omega) h fun M d R hM hl _=> ?_;exact⟨hM.sub,by have:=hM.len;simp only[bO,bI];omega,fun p hp=>by simp only[eY]at hp;rw[hp];simp only[gJ];omega,fun p hp=>by simp at hp,by simp,List.Pairwise.nil,fun p hp=>by simp only[eY]at hp;rw[hp];exact⟨hM.right,hM.late,hM.ok⟩,fun p hp=>by simp at hp⟩
 |succ k ih=>
  intro x L hx h;have e2:2^(k+1)=2*2^k:=(by rw[Nat.pow_succ];omega);have hp:=Nat.two_pow_pos k;unfold rdP at h⊢;refine Zdp (by omega) (by omega) h fun M d R hM hl he=> ?_;unfold Ll at he⊢
  split at he
  ·rename_i c;exact absurd he c
  ·rename_i c1
   split at he
   ·rename_i c;exact absurd he c
   ·rename_i c2
    rw[if_neg c1,if_neg c2];generalize hl1:rdP k (x-2^k) R=l at c1 c2⊢;have h1:=ih (x-2^k) R (by omega) (by rw[hl1];omega);rw[hl1]at h1;generalize hr1:rdP k (x+2^k) l.rest=r at c2⊢;have h2:=ih (x+2^k) l.rest (by omega) (by rw[hr1];omega);rw[hr1]at h2;have e3:((x-2^k:Nat):Int)+((2^k:Nat):Int)=(x:Int):=(by omega);have e4:((x+2^k:Nat):Int)-((2^k:Nat):Int)=(x:Int):=(by omega);have e5:((x-2^k:Nat):Int)-((2^k:Nat):Int)=(x:Int)-((2^(k+1):Nat):Int):=(by omega);have e6:((x+2^k:Nat):Int)+((2^k:Nat):Int)=(x:Int)+((2^(k+1):Nat):Int):=(by omega);obtain⟨a1,a2,a3,a4,a5,a6,a7,a8⟩:=h1;obtain⟨b1,b2,b3,b4,b5,b6,b7,b8⟩:=h2;rw[e3,e5]at a3 a4;rw[e4,e6]at b3 b4;have s1:=b1.trans a1;have g1:=hM.len;have g2:=hM.sub;have g3:=a1.1;refine⟨s1.trans g2,by simp only[aG,bO];omega,fun p hp=> ?_,fun p hp=> ?_,?_,?_,fun p hp=> ?_,fun p hp=> ?_⟩
    ·rcases List.mem_append.1 hp with hp|hp
     ·have:=a3 p hp;omega
     ·rcases List.mem_cons.1 hp with rfl|hp
      ·simp only;omega
      ·have:=b3 p hp;omega
    ·rcases List.mem_append.1 hp with hp|hp
     ·have:=a4 p hp;omega
     ·have:=b4 p hp;omega
    ·refine Ya a5 (List.pairwise_cons.2 ⟨fun q hq=>(b3 q hq).1,b5⟩) fun p hp q hq=> ?_;rcases List.mem_cons.1 hq with rfl|hq
     ·exact(a3 p hp).2
     ·have:=(a3 p hp).2;have:=(b3 q hq).1;omega
    ·refine Ya a6 b6 fun p hp q hq=> ?_;have:=(a4 p hp).2;have:=(b4 q hq).1;omega
    ·rcases List.mem_append.1 hp with hp|hp
     ·exact⟨(a7 p hp).1,by have:=(a7 p hp).2.1;omega,fun hL=>(a7 p hp).2.2 fun n hn=>hL n (g2.2 n hn)⟩
     ·rcases List.mem_cons.1 hp with rfl|hp
      ·exact⟨hM.right,hM.late,hM.ok⟩
      ·exact⟨(b7 p hp).1,by have:=(b7 p hp).2.1;omega,fun hL=>(b7 p hp).2.2 fun n hn=>hL n (g2.2 n (a1.2 n hn))⟩
    ·rcases List.mem_append.1 hp with hp|hp
     ·exact⟨(a8 p hp).1,(a8 p hp).2.trans g2⟩
     ·exact⟨(b8 p hp).1,(b8 p hp).2.trans (a1.trans g2)⟩
def Hj (L:List Nat):Nat:=Ct (L.take 4)
def Ex:SparseD:=⟨0,0,[],[]⟩
def ofS (only:Bool)(m:Nat)(b:List Nat):Nat×SparseD:=
 if 1048576<b.length then(6,Ex)else
 match b with
 |[]=>(4,Ex)
 |c::L=>if c≠m then(3,Ex)else
  if L.length<4 then(4,Ex)else
  if fits (Hj L)=false then(3,Ex)else
  if L.length<8 then(4,Ex)else
  if Hj L≤Hj (L.drop 4)then(3,Ex)else
  let r:=rdP (Nat.log2 (Hj L)) (Hj L-1) (L.drop 8)
  if r.er≠0 then(r.er,Ex)else
  if r.rest≠[]then(5,Ex)else
  if Az ⟨Hj L,Hj (L.drop 4),r.op,r.sh⟩ only=true then(0,⟨Hj L,Hj (L.drop 4),r.op,r.sh⟩)else(3,Ex)
theorem Zdq {L:List Nat} {er:Nat} {n:Int}(h:er≤6):(Bw L er n).2.2≤6:=by
 unfold Bw
 split
 ·exact h
 ·split
  ·show 1≤6;omega
  ·split
   ·show 4≤6;omega
   ·exact aA _
theorem Zj6 {L:List Nat} {er:Nat} {n:Int}(h:er≤6):(Eb L er n).2.2≤6:=Zdq h
theorem Zj7 (b:Nat)(M:List Nat):(Oh b M).2.2≤6:=by
 unfold Oh
 split
 ·show 3≤6;omega
 ·split
  ·show 4≤6;omega
  ·split
   ·exact aA _
   ·show 3≤6;omega
theorem Ld {L:List Nat} {er:Nat}(h:er≤6):(Bf L er).2.2≤6:=by
 have hl:(Bh L er).2.2≤6:=by
  unfold Bh
  split
  ·exact h
  ·split
   ·show 4≤6;omega
   ·exact Zj7 _ _
 unfold Bf
 split
 ·rename_i M e hm;rw[hm]at hl;exact hl
 ·rename_i n M e hm;rw[hm]at hl;exact Zdq hl
theorem Zgo (L:List Nat):(Br L 0).1≤6:=by
 unfold Br;simp only;have h1:(Bf L 0).2.2≤6:=Ld (aA _);generalize Bf L 0=r1 at h1⊢;have h2:(Bf r1.2.1 r1.2.2).2.2≤6:=Ld h1;generalize Bf r1.2.1 r1.2.2=r2 at h2⊢;have h3:(Bf r2.2.1 r2.2.2).2.2≤6:=Ld h2;generalize Bf r2.2.1 r2.2.2=r3 at h3⊢;have h4:(Eb r3.2.1 r3.2.2 1).2.2≤6:=Zj6 h3;generalize Eb r3.2.1 r3.2.2 1=r4 at h4⊢;have h5:(if Ct r4.1=3 then Bf r4.2.1 r4.2.2 else([],r4.2)).2.2≤6:=by
  split
  ·exact Ld h4
  ·exact h4
 generalize(if Ct r4.1=3 then Bf r4.2.1 r4.2.2 else([],r4.2))=r5 at h5⊢;have h6:(Bf r5.2.1 r5.2.2).2.2≤6:=Ld h5;generalize Bf r5.2.1 r5.2.2=r6 at h6⊢
 split
 ·exact h4
 ·split
  ·show 3≤6;omega
  ·split
   ·exact h6
   ·split
    ·exact aA _
    ·show 3≤6;omega
theorem Zi4 (L:List Nat):(Ee L 0).1≤6:=by
 unfold Ee;simp only;have h1:(Bf L 0).2.2≤6:=Ld (aA _);generalize Bf L 0=r1 at h1⊢;have h2:(Bf r1.2.1 r1.2.2).2.2≤6:=Ld h1;generalize Bf r1.2.1 r1.2.2=r2 at h2⊢;have h3:(Bf r2.2.1 r2.2.2).2.2≤6:=Ld h2;generalize Bf r2.2.1 r2.2.2=r3 at h3⊢
 split
 ·exact h3
 ·split
  ·exact aA _
  ·show 3≤6;omega
theorem Zgp (L:List Nat):(Av L 0).1≤6:=by
 unfold Av;simp only[Cz];cases L with
 |nil=>show 4≤6;omega
 |cons b M=>
  simp only[ne_eq,not_true_eq_false,if_false]
  split
  ·exact aA _
  ·split
   ·split
    ·exact aA _
    ·exact Zgo M
   ·split
    ·split
     ·exact aA _
     ·exact Zi4 M
    ·show 3≤6;omega
theorem Zgq {x:Nat} {M:List Nat} {K:NodeD→List Nat→RdR}(h:∀d R,(K d R).er≤6):(Jv x M K).er≤6:=by
 unfold Jv
 split
 ·exact Zgp M
 ·split
  ·show 3≤6;omega
  ·exact h _ _
theorem Zhu {x:Nat} {L:List Nat} {K:NodeD→List Nat→RdR}(h:∀d R,(K d R).er≤6):(Rm x L K).er≤6:=by
 unfold Rm
 split
 ·show 4≤6;omega
 ·split
  ·show 3≤6;omega
  ·split
   ·split
    ·show 4≤6;omega
    ·exact aA _
   ·exact Zgq h
theorem Zkz:∀k x L,(rdP k x L).er≤6:=by
 intro k
 induction k with
 |zero=>intro x L;unfold rdP;exact Zhu fun _ _=>aA _
 |succ k ih=>
  intro x L;unfold rdP;refine Zhu fun d R=> ?_;unfold Ll
  split
  ·exact ih _ _
  ·split
   ·exact ih _ _
   ·exact aA _
theorem Zk0 (only:Bool)(m:Nat)(b:List Nat):(ofS only m b).1≤6:=by
 unfold ofS
 split
 ·show 6≤6;omega
 ·split
  ·show 4≤6;omega
  ·split
   ·show 3≤6;omega
   ·split
    ·show 4≤6;omega
    ·split
     ·show 3≤6;omega
     ·split
      ·show 4≤6;omega
      ·split
       ·show 3≤6;omega
       ·simp only
        split
        ·exact Zkz _ _ _
        ·split
         ·show 5≤6;omega
         ·split
          ·exact aA _
          ·show 3≤6;omega
end Go.Proofs.YtfofaiommeckbaaGreat
namespace Go.Proofs.YtfofaiommeckbaaGreat
open Go.RowKit WireM
theorem Ap {P:Program} {fn:Func} {p q r:Tmp} {ty:TypeId} (h:fn.results=#[.cell p ty,.tmp q,.tmp r]) (tmps:Array Value) (w:World) (g:Nat) (t:TypeId) (cs:Array Value) (d:TypeDesc)
  (hp:tmps.getD p undef=.pointer (some ⟨g,0,none⟩)) (hg:Blk w g t cs)
  (hu:P.underlying ty=some d) (hd:(match d with| .struct _| .array _ _=>true|_=>false)=true) (hi:(P.info? ty).map (·.size)=some cs.size):
  (results fn tmps).run P w=.ok (.tuple #[.agg cs,tmps.getD q undef,tmps.getD r undef]) w:=by
 have hp':tmps[p]?.getD undef=.pointer (some ⟨g,0,none⟩):=(by simpa using hp);simp[results,h,hp',asAddr,run_loadVar_row w g t ty cs (0,0) d hg hu hd hi]
theorem Zae (v:Value)(L:List Nat)(p:Nat)(w:World)(h:Rd w v (bvs L))(hL:∀n∈L,n<256)(hl:L.length≤1000000000)(hp:p≤L.length):
  Calls Tryz.prog 224 #[v,.int .i64 (p:Nat),.agg #[.int .i64 1,.int .i64 0,.int .u64 0,.slice none 0 0,.slice none 0 0]] w fun e w'=>∃a n c,e=.returned (.tuple #[.agg #[.int .i64 1,.int .i64 0,.int .u64 0,.slice a n c,.slice none 0 0],.int .i64 ((Ns L p).2.1:Nat),.int .i64 ((Ns L p).2.2:Nat)])∧(∀W,Rd W v (bvs L)→Rd W (.slice a n c) (bvs (Ns L p).1))∧Below w.heap.size w w':=by
 have HR0:=fun(W:World) (hw:Below w.heap.size w W)=>Zdm v L p W (h.below hw lR) hL hl hp;obtain⟨a,cap,rfl,-,-⟩:=id h;rw[bvs_len]at h HR0⊢;obtain⟨r,hr⟩:=eX (Ns L p);rw[←hr]at HR0⊢;obtain⟨xs,nx,er⟩:=r;obtain⟨ln,hln⟩:=eX L.length;rw[←hln]at h HR0⊢;have HR:=Hd HR0;clear HR0;obtain⟨g,hg⟩:=eX (w.heap.size+1);obtain⟨q,hq⟩:=eX (w.heap.size+1+1);obtain⟨w0,hw0⟩:=eX (((w.alloc (.cells #[.int .i64 1,.int .i64 0,.int .u64 0,.slice none 0 0,.slice none 0 0] 241)).alloc (.cells #[.int .i64 0,.int .i64 0,.int .u64 0,.slice none 0 0,.slice none 0 0] 241)).alloc (.cells #[.int .i64 1,.int .i64 0,.int .u64 0,.slice none 0 0,.slice none 0 0] 241));have ea:(w.alloc (.cells #[.int .i64 1,.int .i64 0,.int .u64 0,.slice none 0 0,.slice none 0 0] 241)).heap.size=g:=(by simp[hg]);have eb:((w.alloc (.cells #[.int .i64 1,.int .i64 0,.int .u64 0,.slice none 0 0,.slice none 0 0] 241)).alloc (.cells #[.int .i64 0,.int .i64 0,.int .u64 0,.slice none 0 0,.slice none 0 0] 241)).heap.size=q:=(by simp[hq]);have HB0:=Hd (show Below w.heap.size w w0 by rw[hw0];exact(((Below.refl w.heap.size w).alloc lR _).alloc (by simp) _).alloc (by simp;omega) _);have G0:=Hd (show Blk w0 g 241 #[.int .i64 0,.int .i64 0,.int .u64 0,.slice none 0 0,.slice none 0 0] by rw[hw0,←ea];exact(Blk.new _ _ _).alloc _);have Q0:=Hd (show Blk w0 q 241 #[.int .i64 1,.int .i64 0,.int .u64 0,.slice none 0 0,.slice none 0 0] by rw[hw0,←eb];exact Blk.new _ _ _);have HGQ:=Hd (show w.heap.size<g∧g<q by omega);have HW0:=Hd hw0;have HG:=Hd hg;have HQ:=Hd hq;have HRD:=Hd h;clear h hL hl hp hr hln hg hq hw0 ea eb;go_enter Tryz.func224,Tryz.ntmps224;go_wp2_with fail;rw[←HW0.out,←HQ.out,←HG.out];refine(HR.out w0 HB0.out).mono ?_;rintro e w1 ⟨u,rfl,hu,hb⟩;obtain⟨ua,un,uc,rfl⟩:∃a n c,u=.slice a n c:=(by obtain⟨a,c,e,_⟩:=hu w HRD.out;exact⟨_,_,_,e⟩);have HU:=Hd hu;have HB1:=Hd (HB0.out.trans (hb.mono HB0.out.size));have G1:=Hd (G0.out.below hb G0.out.lt);have Q1:=Hd (Q0.out.below hb Q0.out.lt);clear hu hb;have y3:=Q1.out.cell 3;have z3:=Q1.out.frozen 3;simp only[bK,bL,bM]at y3;obtain⟨w2,hw2⟩:=eX (w1.setCell ⟨q,3,none⟩ (.slice ua un uc));have HW2:=Hd hw2;have Q2:=Hd (show Blk w2 q 241 #[.int .i64 1,.int .i64 0,.int .u64 0,.slice ua un uc,.slice none 0 0] by rw[hw2];simpa using Q1.out.set 3 (.slice ua un uc));have G2:=Hd (show Blk w2 g 241 #[.int .i64 0,.int .i64 0,.int .u64 0,.slice none 0 0,.slice none 0 0] by rw[hw2];exact G1.out.far (p:=⟨q,3,none⟩) (by have:=HGQ.out;simp only;omega) _);have HB2:=Hd (show Below w.heap.size w w2 by rw[hw2];exact HB1.out.setCell (by have:=HGQ.out;simp only;omega) _);clear hw2;go_wp2_with (first
  |(refine Ai rfl 241 (.tmp 9) rfl q rfl 241 #[.int .i64 1,.int .i64 0,.int .u64 0,.slice ua un uc,.slice none 0 0] (0,0) _ (by rw[←HW2.out];exact Q2.out) Tryz.underlying241 rfl (by kernel_rfl) ?_)
  |(refine Aa rfl 241 (.tmp 6) (.tmp 93) rfl g #[.int .i64 1,.int .i64 0,.int .u64 0,.slice ua un uc,.slice none 0 0] rfl rfl 241 #[.int .i64 0,.int .i64 0,.int .u64 0,.slice none 0 0,.slice none 0 0] (by rw[←HW2.out];exact G2.out) (by kernel_rfl) rfl rfl ?_))
 rintro w3 hblk hbl hoth hsize;rw[←HW2.out]at hoth;simp only[←HW2.out]at hbl;have P3:=Hd hblk;have HB3:=Hd (HB2.out.trans (hbl w.heap.size (by have:=HGQ.out;omega)));clear hblk hbl hoth hsize y3 z3;go_wp2_with fail;refine bodyPost_ret (v:=.tuple #[.agg #[.int .i64 1,.int .i64 0,.int .u64 0,.slice ua un uc,.slice none 0 0],.int .i64 (nx:Nat),.int .i64 (er:Nat)]) (Ap Tryz.results224 _ _ g _ _ _ rfl P3.out Tryz.underlying241 rfl (by kernel_rfl)) rfl ?_;exact⟨_,_,_,rfl,HU.out,HB3.out⟩
def Bi:Nat→List Nat→List (List Nat)×List Nat×Nat
 |0,M=>([],M,0)
 |r+1,M=>if(Bi r M).2.2≠0 then Bi r M else if(Bf (Bi r M).2.1 0).2.2≠0 then([],[],(Bf (Bi r M).2.1 0).2.2)else((Bi r M).1++[(Bf (Bi r M).2.1 0).1],(Bf (Bi r M).2.1 0).2.1,0)
theorem Zgr (N:List Nat)(h:(Bf N 0).2.2=0):(Bf N 0).2.1=N.drop (N.length-(Bf N 0).2.1.length)∧(Bf N 0).2.1.length≤N.length:=by
 have hs:=(Bb N 0).2.1.1;refine⟨?_,hs⟩;have hsuf:=Iw N;have hsub:=(Iv N 0).1;unfold Bf at h hs⊢;rcases hq:Bh N 0 with⟨n,M,e⟩;rw[hq]at h hsuf hsub hs;cases n with
 |none=>exact absurd h (hsuf.1 rfl)
 |some n=>
  obtain⟨he,hM,-⟩:=hsuf.2 n rfl;simp only at he hM hsub;subst he;simp only at h hs⊢;have ht:=(Rh h).2.2.2;rw[ht]at hs⊢;simp only[Int.toNat_natCast]at hs⊢;have e2:M=N.drop (N.length-M.length):=hM
  conv=>lhs;rw[e2,gG]
  congr 1
  have:=(Rh h).2.2.1;rw[dE];omega
theorem Nt (L:List Nat)(p:Nat)(hp:p≤L.length):∀r,(Bi r (L.drop p)).2.2=0→(Bi r (L.drop p)).2.1=L.drop (L.length-(Bi r (L.drop p)).2.1.length)∧(Bi r (L.drop p)).2.1.length≤L.length∧(Bi r (L.drop p)).1.length=r:=by
 intro r
 induction r with
 |zero=>intro _;refine⟨?_,by show(L.drop p).length≤_;rw[dE];omega,rfl⟩;show L.drop p=_;congr 1;show p=L.length-(L.drop p).length;rw[dE];omega
 |succ r ih=>
  intro h;unfold Bi at h⊢
  split at h
  ·rename_i c;exact absurd h c
  ·rename_i c1
   rw[if_neg c1];obtain⟨i1,i2,i3⟩:=ih (by simpa using c1)
   split at h
   ·rename_i c;exact absurd h c
   ·rename_i c2
    rw[if_neg c2];obtain⟨j1,j2⟩:=Zgr _ (by simpa using c2);refine⟨?_,Nat.le_trans j2 i2,by simp[i3]⟩;show(Bf (Bi r (L.drop p)).2.1 0).2.1=_;generalize hq:Bf (Bi r (L.drop p)).2.1 0=q at j1 j2⊢;show q.2.1=L.drop (L.length-q.2.1.length);exact j1.trans ((congrArg (List.drop ((Bi r (L.drop p)).2.1.length-q.2.1.length)) i1).trans (by rw[gG];congr 1;omega))
def RowsR (v:Value)(L:List Nat)(w:World)(u:Value)(vs:List (List Nat)):Prop:=∃us:List Value,us.length=vs.length∧Rd w u us∧∀i,i<vs.length→∃a n c,us[i]? =some (.slice a n c)∧∀W,Rd W v (bvs L)→Rd W (.slice a n c) (bvs (vs.getD i []))
theorem Zdr (v:Value)(L:List Nat)(p n:Nat)(w:World)(h:Rd w v (bvs L))(hL:∀n∈L,n<256)(hl:L.length≤1000000000)(hp:p≤L.length)(hn:n≤3):
  Calls Tryz.prog 187 #[v,.int .i64 (p:Nat),.int .i64 (n:Nat)] w fun e w'=>∃u nx,e=.returned (.tuple #[u,.int .i64 nx,.int .i64 ((Bi n (L.drop p)).2.2:Nat)])∧((Bi n (L.drop p)).2.2=0→nx=((L.length-(Bi n (L.drop p)).2.1.length:Nat):Int)∧RowsR v L w' u (Bi n (L.drop p)).1)∧Below w.heap.size w w':=by
 have TK:=fun(q:Nat) (hq:q≤L.length) (W:World) (hw:Below w.heap.size w W)=>Zae v L q W (h.below hw lR) hL hl hq;have SUF:=Nt L p hp;have ST:∀r,(Bi r (L.drop p)).2.2=0→Ns L (L.length-(Bi r (L.drop p)).2.1.length)=if(Bf (Bi r (L.drop p)).2.1 0).2.2=0 then((Bf (Bi r (L.drop p)).2.1 0).1,L.length-(Bf (Bi r (L.drop p)).2.1 0).2.1.length,0)else([],L.length-(Bi r (L.drop p)).2.1.length,(Bf (Bi r (L.drop p)).2.1 0).2.2):=by
  intro r hr;unfold Ns;rw[←(SUF r hr).1]
 have NX:∀r,Bi (r+1) (L.drop p)=if(Bi r (L.drop p)).2.2≠0 then Bi r (L.drop p)else if(Bf (Bi r (L.drop p)).2.1 0).2.2≠0 then([],[],(Bf (Bi r (L.drop p)).2.1 0).2.2)else((Bi r (L.drop p)).1++[(Bf (Bi r (L.drop p)).2.1 0).1],(Bf (Bi r (L.drop p)).2.1 0).2.1,0):=fun r=>rfl;have STOP:∀r,(Bi r (L.drop p)).2.2≠0→∀k,Bi (r+k) (L.drop p)=Bi r (L.drop p):=by
  intro r hr k
  induction k with
  |zero=>rfl
  |succ k ih=>rw[←Nat.add_assoc,NX,ih,if_pos hr]
 have Z0:Bi 0 (L.drop p)=([],L.drop p,0):=rfl;have hdl:(L.drop p).length=L.length-p:=dE;obtain⟨S,hS⟩:∃S:Nat→List (List Nat)×List Nat×Nat,S=fun r=>Bi r (L.drop p):=⟨_,rfl⟩;have hS2:∀r,Bi r (L.drop p)=S r:=fun r=>(by rw[hS]);simp only[hS2]at SUF ST NX STOP Z0⊢;obtain⟨av,cap,rfl,-,-⟩:=id h;rw[bvs_len]at h TK⊢;obtain⟨ln,hln⟩:=eX L.length;rw[←hln]at h SUF ST TK hl hp hdl⊢;have HTK:=Hd TK;have HSUF:=Hd SUF;have HST:=Hd ST;have HNX:=Hd NX;have HSTOP:=Hd STOP;have HZ:=Hd (show(S 0).1=[]∧ln-(S 0).2.1.length=p∧(S 0).2.2=0 by rw[Z0];exact⟨rfl,by simp only[hdl];omega,rfl⟩);clear h hL TK SUF ST NX STOP Z0 hS hS2 hdl hln;go_enter Tryz.func187,Tryz.ntmps187;go_wp2_with fail
 go_loopg [1,9,10] n (fun q pv ov iv wr=>∃r:Nat,r+q=n∧iv=.int .i64 (r:Nat)∧(S r).2.2=0∧pv=.int .i64 ((ln-(S r).2.1.length:Nat):Int)∧(∃us:List Value,us.length=(S r).1.length∧Own wr w.heap.size 28 ov us∧∀i,i<(S r).1.length→∃a n c,us[i]? =some (.slice a n c)∧∀W,Rd W (.slice av ln cap) (bvs L)→Rd W (.slice a n c) (bvs ((S r).1.getD i [])))∧Below w.heap.size w wr)
 case atStart=>exact⟨0,by omega,rfl,HZ.out.2.2,by rw[HZ.out.2.1],⟨[],by rw[HZ.out.1];rfl,Own.nil _ _ _,fun i hi=>by rw[HZ.out.1]at hi;simp at hi⟩,bR⟩
 case round=>
  obtain⟨r,hr,rfl,her,rfl,⟨us,hul,hown,hus⟩,hb⟩:=hrel;have HR:=Hd hr;have HER:=Hd her;have HB:=Hd hb;have HOW:=Hd hown;have HUS:=Hd hus;have HUL:=Hd hul;obtain⟨s1,s2,s3⟩:=HSUF.out r her;have hst:=HST.out r her;have hnx:=HNX.out r;obtain⟨pr,hpr⟩:=eX (ln-(S r).2.1.length);rw[←hpr]at hst⊢;have hprl:pr≤ln:=by omega
  by_cases hlt:r<n
  ·have hlt':decide (r<n)=true:=decide_eq_true hlt;have hltI:decide ((r:Int)<(n:Int))=true:=decide_eq_true (by omega);have HTR:=Hd (HTK.out pr hprl wr hb);rw[hst]at HTR;rw[if_neg (by omega)]at hnx;obtain⟨q,hq⟩:=eX (Bf (S r).2.1 0);rw[←hq]at HTR hnx;obtain⟨x,M,er⟩:=q;simp only at HTR hnx;obtain⟨p1,p2,p3,rfl⟩:=Dl hown;have HLT:=Hd hlt;clear hr her hown hus hul hb hst hpr hprl s1 s2 hq hlt
   by_cases he:er=0
   ·have he2:((er:Int) !=0)=false:=(by rw[bne_eq_false_iff_eq];omega);rw[if_pos he]at HTR;rw[if_neg (by omega)]at hnx;have HNX2:=Hd hnx;subst he;clear hnx;go_wp2_with fail;refine HTR.out.mono ?_;rintro e w2 ⟨ua,un,uc,rfl,hu,hb⟩;have HB2:=Hd (HB.out.trans (hb.mono HB.out.size));have HU:=Hd hu;have HOW2:=Hd (HOW.out.below hb lR);clear hu hb;go_wp2_with (at_builtin;refine Ao rfl (.tmp 31) (.tmp 34) 64 rfl w.heap.size 28 _ 24 Zkw _ _ rfl ((HOW2.out.alloc _).alloc _) ⟨w2.heap.size+1,0,none⟩ (.slice ua un uc) rfl ?c1 rfl ?c2 ?c3 ?_);case c1=>
     have e1:(w2.alloc (.cells #[.int .i64 1,.int .i64 0,.int .u64 0,.slice ua un uc,.slice none 0 0] 241)).heap.size=w2.heap.size+1:=(by simp);rw[←e1];exact Ar rfl
    case c2=>have:=HUL.out;have:=HLT.out;omega
    case c3=>have:=HB2.out.size;simp;omega
    rintro v' w3 hown3-hb3;have hba:=((Below.refl w2.heap.size w2).alloc lR (.cells #[.int .i64 1,.int .i64 0,.int .u64 0,.slice ua un uc,.slice none 0 0] 241)).alloc (by simp) (.cells #[.slice ua un uc] 28);have HO3:=Hd hown3;have HB3:=Hd ((HB2.out.trans (hba.mono HB2.out.size)).trans hb3);clear hown3 hb3 hba;go_wp2_with fail;go_roundg (gk-1);case measure=>have:=HR.out;have:=HLT.out;omega
    case rel=>
     refine⟨r+1,by have:=HR.out;have:=HLT.out;omega,by have:=HLT.out;have e:=(show wrap64 ((r:Int)+1)=(r:Int)+1 by unfold wrap64;omega);go_num,by rw[HNX2.out],by rw[HNX2.out],⟨us++[.slice ua un uc],by rw[HNX2.out,aG,aG,HUL.out];rfl,HO3.out,fun i hi=> ?_⟩,HB3.out⟩;rw[HNX2.out]at hi⊢;simp only[aG,bO,bI]at hi
     by_cases e:i<(S r).1.length
     ·obtain⟨a',n',c',h1,h2⟩:=HUS.out i e;refine⟨a',n',c',by rw[gH (by rw[HUL.out];exact e)];exact h1,?_⟩;intro W hW;have:=h2 W hW;rw[aH]at this⊢;rw[gH e];exact this
     ·obtain rfl:i=(S r).1.length:=(by omega);refine⟨ua,un,uc,by rw[←HUL.out,gI lR];simp,?_⟩;intro W hW;have:=HU.out W hW;rw[aH,gI lR];simpa using this
   ·have he2:((er:Int) !=0)=true:=(by rw[bne_iff_ne];omega);rw[if_neg he]at HTR;rw[if_pos (by omega)]at hnx;have HFI:=Hd (show S n=([],[],er)from by
     have h1:=HSTOP.out (r+1) (by rw[hnx];exact he) (n-(r+1));rw[show r+1+(n-(r+1))=n by have:=HLT.out;omega]at h1;rw[h1,hnx])
    have HEN:=Hd he;clear hnx he;go_wp2_with fail;refine HTR.out.mono ?_;rintro e w2 ⟨ua,un,uc,rfl,hu,hb⟩;have HB2:=Hd (HB.out.trans (hb.mono HB.out.size));clear hu hb;go_wp2_with fail
    go_ret3
    rw[HFI.out];exact⟨_,_,rfl,fun h=>absurd h HEN.out,HB2.out.alloc HB2.out.size _⟩
  ·obtain rfl:r=n:=(by omega);have hlt':decide (r<r)=false:=decide_eq_false hlt;have hltI:decide ((r:Int)<(r:Int))=false:=decide_eq_false (by omega);have HPR:=Hd hpr;clear hr her hown hus hul hb hst hpr hprl s1 s2 hnx hlt;go_wp2_with fail
   go_ret3
   exact⟨_,_,by rw[HER.out];rfl,fun _=>⟨by rw[HPR.out],us,HUL.out,HOW.out.rd,HUS.out⟩,HB.out⟩
def VcP (v:Value)(L:List Nat)(w:World)(xs:List (List Nat))(n er:Nat)(e:Ending)(w':World):Prop:=
 ∃u nx,e=.returned (.tuple #[u,.int .i64 nx,.int .i64 (er:Nat)])∧(er=0→nx=(n:Int)∧RowsR v L w' u xs)∧Below w.heap.size w w'
theorem RowsR.nth {v:Value} {L:List Nat} {w:World} {u:Value} {xs:List (List Nat)}(h:RowsR v L w u xs)(hv:Rd w v (bvs L))(h0:0<xs.length):
  ∃b off cap,b<w.heap.size∧u=.slice (some ⟨b,off,none⟩) xs.length cap∧∀i,i<xs.length→∃a c,w.cell? ⟨b,off+i,none⟩=some (.slice a (xs.getD i []).length c)∧∀W,Rd W v (bvs L)→Rd W (.slice a (xs.getD i []).length c) (bvs (xs.getD i [])):=by
 obtain⟨us,h1,h2,h3⟩:=h;obtain⟨a0,cap,rfl,-,-⟩:=id h2;have hx:∀i,i<xs.length→∃a c,us[i]? =some (.slice a (xs.getD i []).length c)∧∀W,Rd W v (bvs L)→Rd W (.slice a (xs.getD i []).length c) (bvs (xs.getD i [])):=by
  intro i hi;obtain⟨a,n,c,e1,e2⟩:=h3 i hi;obtain⟨a',c',e3,-⟩:=e2 w hv;rw[bvs_len]at e3;simp only[Value.slice.injEq]at e3;obtain⟨-,rfl,-⟩:=e3;exact⟨a,c,e1,e2⟩
 obtain⟨a,c,e1,-⟩:=hx 0 h0;obtain⟨b,off,rfl,hb,-⟩:=h2.get e1;refine⟨b,off,cap,hb,by rw[h1],fun i hi=> ?_⟩;obtain⟨a,c,e1,e2⟩:=hx i hi;obtain⟨b',off',e,-,hc⟩:=h2.get e1;cases e;exact⟨a,c,hc,e2⟩
theorem RowsR.one {v:Value} {L:List Nat} {w:World} {u:Value} {x:List Nat}(h:RowsR v L w u [x])(hv:Rd w v (bvs L)):
  ∃b off cap a c,b<w.heap.size∧u=.slice (some ⟨b,off,none⟩) 1 cap∧w.cell? ⟨b,off,none⟩=some (.slice a x.length c)∧∀W,Rd W v (bvs L)→Rd W (.slice a x.length c) (bvs x):=by
 obtain⟨b,off,cap,hb,hu,hx⟩:=h.nth hv (by simp);obtain⟨a,c,h1,h2⟩:=hx 0 (by simp);exact⟨b,off,cap,a,c,hb,hu,h1,h2⟩
theorem RowsR.three {v:Value} {L:List Nat} {w:World} {u:Value} {x y z:List Nat}(h:RowsR v L w u [x,y,z])(hv:Rd w v (bvs L)):
  ∃b off cap a1 c1 a2 c2 a3 c3,b<w.heap.size∧u=.slice (some ⟨b,off,none⟩) 3 cap∧(w.cell? ⟨b,off,none⟩=some (.slice a1 x.length c1)∧w.cell? ⟨b,off+1,none⟩=some (.slice a2 y.length c2)∧w.cell? ⟨b,off+2,none⟩=some (.slice a3 z.length c3))∧
   (∀W,Rd W v (bvs L)→Rd W (.slice a1 x.length c1) (bvs x))∧(∀W,Rd W v (bvs L)→Rd W (.slice a2 y.length c2) (bvs y))∧∀W,Rd W v (bvs L)→Rd W (.slice a3 z.length c3) (bvs z):=by
 obtain⟨b,off,cap,hb,hu,hx⟩:=h.nth hv (by simp);obtain⟨a1,c1,p1,q1⟩:=hx 0 (by simp);obtain⟨a2,c2,p2,q2⟩:=hx 1 (by simp);obtain⟨a3,c3,p3,q3⟩:=hx 2 (by simp);exact⟨b,off,cap,a1,c1,a2,c2,a3,c3,hb,hu,⟨p1,p2,p3⟩,q1,q2,q3⟩
def LeafW (v:Value)(L:List Nat)(d:LeafD)(c:Array Value):Prop:=
 ∃a1 c1 a2 c2 a3 c3 a4 c4 a5 c5,c=#[.slice a1 d.box.length c1,.slice a2 d.sign.length c2,.slice a3 d.ident.length c3,.int .u8 (d.source:Nat),.slice a4 d.par.length c4,.slice a5 d.sig.length c5]∧
  ∀W,Rd W v (bvs L)→Rd W (.slice a1 d.box.length c1) (bvs d.box)∧Rd W (.slice a2 d.sign.length c2) (bvs d.sign)∧Rd W (.slice a3 d.ident.length c3) (bvs d.ident)∧Rd W (.slice a4 d.par.length c4) (bvs d.par)∧Rd W (.slice a5 d.sig.length c5) (bvs d.sig)
theorem Cf (w:World):Rd w (.slice none 0 0) (bvs []):=⟨none,0,rfl,lR,aA _,.inl ⟨rfl,fun _=>rfl⟩⟩
theorem LeafW.none (v:Value)(L:List Nat):LeafW v L noLeafD #[.slice none 0 0,.slice none 0 0,.slice none 0 0,.int .u8 0,.slice none 0 0,.slice none 0 0]:=⟨_,_,_,_,_,_,_,_,_,_,rfl,fun W _=>⟨Cf W,Cf W,Cf W,Cf W,Cf W⟩⟩
def Zkj (v:Value)(L:List Nat)(w:World)(r:Nat×LeafD×Nat)(e:Ending)(w':World):Prop:=
 ∃c nx,e=.returned (.tuple #[.agg c,.int .i64 nx,.int .i64 (r.1:Nat)])∧(r.1=0→nx=(r.2.2:Int))∧LeafW v L r.2.1 c∧Below w.heap.size w w'
theorem Hk (v:Value) (L x1 x2 x3 x5 x6:List Nat) (p n1 n5 n6 e1 e5 e6 s:Nat) (r:Nat×LeafD×Nat) (w:World) (h:Rd w v (bvs L)) (hl:L.length≤1000000000)
  (C1:∀W,Below w.heap.size w W→Calls Tryz.prog 187 #[v,.int .i64 (p:Nat),.int .i64 3] W (VcP v L W [x1,x2,x3] n1 e1))
  (C5:e1=0→n1<L.length→s=3→∀W,Below w.heap.size w W→Calls Tryz.prog 187 #[v,.int .i64 ((n1+1:Nat):Int),.int .i64 1] W (VcP v L W [x5] n5 e5))
  (N5:s≠3→x5=[]∧n5=n1+1∧e5=0)
  (C6:e1=0→n1<L.length→e5=0→∀W,Below w.heap.size w W→Calls Tryz.prog 187 #[v,.int .i64 (n5:Nat),.int .i64 1] W (VcP v L W [x6] n6 e6))
  (hs:e1=0→n1<L.length→(bvs L)[n1]? =some (.int .u8 (s:Nat))) (hs2:s<256)
  (X1:e1≠0→r=(e1,noLeafD,0)) (X2:e1=0→L.length≤n1→r=(4,noLeafD,0)) (XS:e1=0→n1<L.length→s<1∨3<s→r=(3,noLeafD,0))
  (X5:e1=0→n1<L.length→¬(s<1∨3<s)→e5≠0→r=(e5,noLeafD,0)) (X6:e1=0→n1<L.length→¬(s<1∨3<s)→e5=0→e6≠0→r=(e6,noLeafD,0))
  (XB:e1=0→n1<L.length→¬(s<1∨3<s)→e5=0→e6=0→∀b,rlB x1.length x2.length x3.length s x5.length x6.length=b→r=if b=true then(0,⟨x1,x2,x3,s,x5,x6⟩,n6)else(3,noLeafD,0)):
  Calls Tryz.prog 186 #[v,.int .i64 (p:Nat)] w (Zkj v L w r):=by
 obtain⟨av,cap,rfl,-,-⟩:=id h;rw[bvs_len]at h C1 C5 C6⊢;obtain⟨ln,hln⟩:=eX L.length;rw[←hln]at h hl C1 C5 C6 hs X2 XS X5 X6 XB⊢;obtain⟨g,hg⟩:=eX w.heap.size;have HG:=Hd hg;obtain⟨w0,hw0⟩:=eX (w.alloc (.cells #[.slice none 0 0,.slice none 0 0,.slice none 0 0,.int .u8 0,.slice none 0 0,.slice none 0 0] 44));have HW0:=Hd hw0;have G0:=Hd (show Blk w0 g 44 #[.slice none 0 0,.slice none 0 0,.slice none 0 0,.int .u8 0,.slice none 0 0,.slice none 0 0] by rw[hw0,hg];exact Blk.new _ _ _);have B0:=Hd (show Below w.heap.size w w0 by rw[hw0];exact bR.alloc lR _);have HRD:=Hd h;have HC1:=Hd C1;have HC5:=Hd C5;have HN5:=Hd N5;have HC6:=Hd C6;have HX1:=Hd X1;have HX2:=Hd X2;have HXS:=Hd XS;have HX5:=Hd X5;have HX6:=Hd X6;have HXB:=Hd XB;have HSB:=Hd hs;have HS2:=Hd hs2;have HRG:=Hd @Ih;obtain⟨S,hS⟩:=eX (Zkj (.slice av ln cap) L w r);rw[←hS];have HS:=Hd (show∀(e:Ending) (w':World) {c:Array Value} {nx:Int} {k:Nat} {d:LeafD} {n:Nat},e=.returned (.tuple #[.agg c,.int .i64 nx,.int .i64 (k:Nat)])→r=(k,d,n)→(k=0→nx=(n:Int))→LeafW (.slice av ln cap) L d c→Below w.heap.size w w'→S e w' from by
  rintro e w' c nx k d n rfl rfl h1 h2 h3;rw[hS];exact⟨c,nx,rfl,h1,h2,h3⟩)
 clear h hg hw0 C1 C5 N5 C6 X1 X2 XS X5 X6 XB hS hs hs2 hln;go_enter Tryz.func186,Tryz.ntmps186;go_wp2_with fail;rw[←HW0.out,←HG.out];refine(HC1.out w0 B0.out).mono ?_;rintro e w1 ⟨u1,nx1,rfl,hu1,hb⟩;have B1:=Hd (B0.out.trans (hb.mono B0.out.size));have G1:=Hd (G0.out.below hb G0.out.lt);clear hb
 by_cases h1:e1=0
 ·have HE1:=Hd h1;have h1b:((e1:Int) !=0)=false:=(by rw[bne_eq_false_iff_eq];omega);obtain⟨rfl,hrows⟩:=hu1 h1;obtain⟨ub,uo,uc,a1,c1,a2,c2,a3,c3,hub,rfl,⟨k1,k2,k3⟩,q1,q2,q3⟩:=hrows.three (HRD.out.below B1.out lR);have X1:=Hd q1;have X2:=Hd q2;have X3:=Hd q3;clear hrows q1 q2 q3 h1 hu1
  by_cases h2:n1<ln
  ·have HN:=Hd h2;have hd1:decide ((n1:Int)≥(ln:Int))=false:=decide_eq_false (by omega);have hd2:decide ((ln:Int)≤(n1:Int))=false:=decide_eq_false (by omega);have hd3:decide (ln≤n1)=false:=decide_eq_false (by omega);obtain⟨vb,vo,rfl,hvb,hc0⟩:=(HRD.out.below B1.out lR).get (HSB.out HE1.out h2);clear h2;go_wp2_with fail;clear h1b;refine Ax [fun v _=>v=.slice (some ⟨ub,uo,none⟩) 3 uc,fun v _=>v=.pointer (some ⟨ub,uo,none⟩),fun v _=>v=.slice a1 x1.length c1,fun v _=>v=.slice (some ⟨ub,uo,none⟩) 3 uc,fun v _=>v=.pointer (some ⟨ub,uo+1,none⟩),fun v _=>v=.slice a2 x2.length c2,fun v _=>v=.slice (some ⟨ub,uo,none⟩) 3 uc,fun v _=>v=.pointer (some ⟨ub,uo+2,none⟩),fun v _=>v=.slice a3 x3.length c3,fun v _=>v=.slice (some ⟨vb,vo,none⟩) ln cap,fun v _=>v=.int .i64 (n1:Nat),fun v _=>v=.pointer (some ⟨vb,vo+n1,none⟩),fun v _=>v=.int .u8 (s:Nat),fun v _=>v=.agg #[.slice a1 x1.length c1,.slice a2 x2.length c2,.slice a3 x3.length c3,.int .u8 (s:Nat),.slice none 0 0,.slice none 0 0],fun v w'=>∃g cs,v=.pointer (some ⟨g,0,none⟩)∧w1.heap.size≤g∧Blk w' g 44 cs∧cs.size=6,fun v w'=>∃g,v=.pointer (some ⟨g,0,none⟩)∧w1.heap.size≤g∧Blk w' g 44 #[.slice a1 x1.length c1,.slice a2 x2.length c2,.slice a3 x3.length c3,.int .u8 (s:Nat),.slice none 0 0,.slice none 0 0]]
    [true,true,true,true,true,true,true,true,true,true,true,true,true,true,true,true] (fun X=>Below w1.heap.size w1 X) (fun X Y=>(∀g t cs,Blk X g t cs→∃cs2,Blk Y g t cs2∧cs2.size=cs.size)∧Below w1.heap.size X Y) (some 15) (by kernel_rfl) ?_ (⟨rfl,rfl,rfl,lR,fun _ _=>rfl⟩) (fun X Y hx h=>⟨fun g t cs k=>⟨cs,k.below h k.lt,rfl⟩,h.mono hx.size⟩) (fun X Y hx hs=>hx.trans hs.2) (by kernel_rfl) (by kernel_rfl) ?_ ?_
   ·exact Au (fun _ _ _ h _ _=>h) (Au (fun _ _ _ h _ _=>h) (Au (fun _ _ _ h _ _=>h) (Au (fun _ _ _ h _ _=>h) (Au (fun _ _ _ h _ _=>h) (Au (fun _ _ _ h _ _=>h) (Au (fun _ _ _ h _ _=>h) (Au (fun _ _ _ h _ _=>h) (Au (fun _ _ _ h _ _=>h) (Au (fun _ _ _ h _ _=>h) (Au (fun _ _ _ h _ _=>h) (Au (fun _ _ _ h _ _=>h) (Au (fun _ _ _ h _ _=>h) (Au (fun _ _ _ h _ _=>h) (Au (fun v x y h hi hs=>let⟨g,cs,e,hg,k,hc⟩:=h;let⟨cs2,k2,e2⟩:=hs.1 g _ cs k;⟨g,cs2,e,hg,k2,e2.trans hc⟩) (Cs (fun v x y h hi hs=>let⟨g,e,hg,k⟩:=h;⟨g,e,hg,k.below hs k.lt⟩) (Aj))))))))))))))))
   ·refine .cons (Ae ?_) (.cons (Ae ?_) (.cons (Ae ?_) (.cons (Ae ?_) (.cons (Ae ?_) (.cons (Ae ?_) (.cons (Ae ?_) (.cons (Ae ?_) (.cons (Ae ?_) (.cons (Ae ?_) (.cons (Ae ?_) (.cons (Ae ?_) (.cons (Ae ?_) (.cons (Ae ?_) (.cons (Ae ?_) (.cons (Ae ?_) (.nil))))))))))))))))
    ·intro a wx hbx hq ho hf;have hbx:Below w1.heap.size w1 wx:=hbx;have hbq:Below w1.heap.size w1 wx:=hq (by kernel_rfl);clear hq;refine⟨rfl,?_⟩;intro K hK;have e0:a.tmps[7]?.getD undef=.slice (some ⟨ub,uo,none⟩) 3 uc:=ho 7 (by kernel_rfl);go_simp;exact hK _ _ rfl (Ab rfl bR)
    ·intro a wx hbx hq ho hf;have hbx:Below w1.heap.size w1 wx:=hbx;have hbq:Below w1.heap.size w1 wx:=hq (by kernel_rfl);clear hq;refine⟨rfl,?_⟩;intro K hK;have e0:a.tmps[29]?.getD undef=.slice (some ⟨ub,uo,none⟩) 3 uc:=hf.1;go_simp;exact hK _ _ rfl (Ab rfl bR)
    ·intro a wx hbx hq ho hf;have hbx:Below w1.heap.size w1 wx:=hbx;have hbq:Below w1.heap.size w1 wx:=hq (by kernel_rfl);clear hq;refine⟨rfl,?_⟩;intro K hK;have e0:a.tmps[30]?.getD undef=.pointer (some ⟨ub,uo,none⟩):=hf.1;have d1:=(hbx.cell (p:=⟨ub,uo,none⟩) hub).trans k1;go_simp;exact hK _ _ rfl (Ab rfl bR)
    ·intro a wx hbx hq ho hf;have hbx:Below w1.heap.size w1 wx:=hbx;have hbq:Below w1.heap.size w1 wx:=hq (by kernel_rfl);clear hq;refine⟨rfl,?_⟩;intro K hK;have e0:a.tmps[7]?.getD undef=.slice (some ⟨ub,uo,none⟩) 3 uc:=ho 7 (by kernel_rfl);go_simp;exact hK _ _ rfl (Ab rfl bR)
    ·intro a wx hbx hq ho hf;have hbx:Below w1.heap.size w1 wx:=hbx;have hbq:Below w1.heap.size w1 wx:=hq (by kernel_rfl);clear hq;refine⟨rfl,?_⟩;intro K hK;have e0:a.tmps[32]?.getD undef=.slice (some ⟨ub,uo,none⟩) 3 uc:=hf.1;go_simp;exact hK _ _ rfl (Ab rfl bR)
    ·intro a wx hbx hq ho hf;have hbx:Below w1.heap.size w1 wx:=hbx;have hbq:Below w1.heap.size w1 wx:=hq (by kernel_rfl);clear hq;refine⟨rfl,?_⟩;intro K hK;have e0:a.tmps[33]?.getD undef=.pointer (some ⟨ub,uo+1,none⟩):=hf.1;have d1:=(hbx.cell (p:=⟨ub,uo+1,none⟩) hub).trans k2;go_simp;exact hK _ _ rfl (Ab rfl bR)
    ·intro a wx hbx hq ho hf;have hbx:Below w1.heap.size w1 wx:=hbx;have hbq:Below w1.heap.size w1 wx:=hq (by kernel_rfl);clear hq;refine⟨rfl,?_⟩;intro K hK;have e0:a.tmps[7]?.getD undef=.slice (some ⟨ub,uo,none⟩) 3 uc:=ho 7 (by kernel_rfl);go_simp;exact hK _ _ rfl (Ab rfl bR)
    ·intro a wx hbx hq ho hf;have hbx:Below w1.heap.size w1 wx:=hbx;have hbq:Below w1.heap.size w1 wx:=hq (by kernel_rfl);clear hq;refine⟨rfl,?_⟩;intro K hK;have e0:a.tmps[35]?.getD undef=.slice (some ⟨ub,uo,none⟩) 3 uc:=hf.1;go_simp;exact hK _ _ rfl (Ab rfl bR)
    ·intro a wx hbx hq ho hf;have hbx:Below w1.heap.size w1 wx:=hbx;have hbq:Below w1.heap.size w1 wx:=hq (by kernel_rfl);clear hq;refine⟨rfl,?_⟩;intro K hK;have e0:a.tmps[36]?.getD undef=.pointer (some ⟨ub,uo+2,none⟩):=hf.1;have d1:=(hbx.cell (p:=⟨ub,uo+2,none⟩) hub).trans k3;go_simp;exact hK _ _ rfl (Ab rfl bR)
    ·intro a wx hbx hq ho hf;have hbx:Below w1.heap.size w1 wx:=hbx;have hbq:Below w1.heap.size w1 wx:=hq (by kernel_rfl);clear hq;refine⟨rfl,?_⟩;intro K hK;have e0:a.tmps[0]?.getD undef=.slice (some ⟨vb,vo,none⟩) ln cap:=ho 0 (by kernel_rfl);go_simp;exact hK _ _ rfl (Ab rfl bR)
    ·intro a wx hbx hq ho hf;have hbx:Below w1.heap.size w1 wx:=hbx;have hbq:Below w1.heap.size w1 wx:=hq (by kernel_rfl);clear hq;refine⟨rfl,?_⟩;intro K hK;have e0:a.tmps[8]?.getD undef=.int .i64 (n1:Nat):=ho 8 (by kernel_rfl);go_simp;exact hK _ _ rfl (Ab rfl bR)
    ·intro a wx hbx hq ho hf;have hbx:Below w1.heap.size w1 wx:=hbx;have hbq:Below w1.heap.size w1 wx:=hq (by kernel_rfl);clear hq;refine⟨rfl,?_⟩;intro K hK;have e0:a.tmps[38]?.getD undef=.slice (some ⟨vb,vo,none⟩) ln cap:=hf.1;have e1:a.tmps[39]?.getD undef=.int .i64 (n1:Nat):=hf.2.1;have hlt:n1<ln:=HN.out;go_simp;exact hK _ _ rfl (Ab rfl bR)
    ·intro a wx hbx hq ho hf;have hbx:Below w1.heap.size w1 wx:=hbx;have hbq:Below w1.heap.size w1 wx:=hq (by kernel_rfl);clear hq;refine⟨rfl,?_⟩;intro K hK;have e0:a.tmps[40]?.getD undef=.pointer (some ⟨vb,vo+n1,none⟩):=hf.1;have d1:=(hbx.cell (p:=⟨vb,vo+n1,none⟩) hvb).trans hc0;go_simp;exact hK _ _ rfl (Ab rfl bR)
    ·intro a wx hbx hq ho hf;have hbx:Below w1.heap.size w1 wx:=hbx;have hbq:Below w1.heap.size w1 wx:=hq (by kernel_rfl);clear hq;refine⟨rfl,?_⟩;intro K hK;have e0:a.tmps[31]?.getD undef=.slice a1 x1.length c1:=hf.1;have e1:a.tmps[34]?.getD undef=.slice a2 x2.length c2:=hf.2.1;have e2:a.tmps[37]?.getD undef=.slice a3 x3.length c3:=hf.2.2.1;have e3:a.tmps[41]?.getD undef=.int .u8 (s:Nat):=hf.2.2.2.1;go_simp;exact hK _ _ rfl (Ab rfl bR)
    ·intro a wx hbx hq ho hf;have hbx:Below w1.heap.size w1 wx:=hbx;have hbq:Below w1.heap.size w1 wx:=hq (by kernel_rfl);clear hq;refine⟨rfl,?_⟩;intro K hK
     go_simp;exact hK _ _ ⟨_,_,rfl,hbx.size,Blk.new _ _ _,rfl⟩ (Ab rfl (bR.alloc lR _))
    ·intro a wx hbx hq ho hf;have hbx:Below w1.heap.size w1 wx:=hbx;have hbq:Below w1.heap.size w1 wx:=hq (by kernel_rfl);clear hq;refine⟨rfl,?_⟩;intro K hK;have o0:∃g cs,(a.tmps[10]?.getD undef)=.pointer (some ⟨g,0,none⟩)∧w1.heap.size≤g∧Blk wx g 44 cs∧cs.size=6:=hf.1;obtain⟨v0,hv0⟩:=eX (a.tmps[10]?.getD undef);rw[←hv0]at o0;have e0:=hv0.symm;clear hv0;have e1:a.tmps[42]?.getD undef=.agg #[.slice a1 x1.length c1,.slice a2 x2.length c2,.slice a3 x3.length c3,.int .u8 (s:Nat),.slice none 0 0,.slice none 0 0]:=hf.2.1;obtain⟨g,cs,hv,hg,hblk,hcs⟩:=o0;refine wp_store_row 44 (.tmp 10) (.tmp 42) rfl g #[.slice a1 x1.length c1,.slice a2 x2.length c2,.slice a3 x3.length c3,.int .u8 (s:Nat),.slice none 0 0,.slice none 0 0] (evs (e0.trans hv)) (evs e1) _ cs hblk (by kernel_rfl) (by rw[hcs];rfl) (by rw[←Array.all_toList];rfl) ?_;refine hK undef _ ⟨g,by first|exact e0.trans hv|exact hv,hg,setRow_heap wx g cs _ _ _ hblk⟩ (Cc rfl ⟨fun g2 t cs2 k2=> ?_,⟨rfl,rfl,rfl,by simp,fun i hi=>setRow_other wx g i _ (by omega)⟩⟩)
     by_cases e:g2=g
     ·subst e;have hkk:=hblk.symm.trans k2;simp only[Option.some.injEq,Obj.cells.injEq]at hkk;obtain⟨rfl,rfl,-⟩:=hkk;exact⟨_,setRow_heap wx g2 cs _ _ _ hblk,hcs.symm⟩
     ·exact⟨cs2,(setRow_other wx g g2 _ e).trans k2,rfl⟩
   ·rintro f w9 hb9 hfin;have hb9:Below w1.heap.size w1 w9:=hb9;have S10:∃g,(f 10)=.pointer (some ⟨g,0,none⟩)∧w1.heap.size≤g∧Blk w9 g 44 #[.slice a1 x1.length c1,.slice a2 x2.length c2,.slice a3 x3.length c3,.int .u8 (s:Nat),.slice none 0 0,.slice none 0 0]:=hfin.2.2.2.2.2.2.2.2.2.2.2.2.2.2.2.1;clear hfin;simp only[Aw,Bl,Ga,List.filterMap_cons,List.filterMap_nil,List.contains_cons,List.contains_nil,Nat.reduceBEq,Nat.reduceAdd,Bool.or_false,Bool.or_true,cond_true,cond_false];obtain⟨q,hq7,hq1,hblk⟩:=S10;rw[hq7];have HGQ:=Hd (show g<q∧w1.heap.size≤q from⟨Nat.lt_of_lt_of_le G1.out.lt hq1,hq1⟩);have B2:=Hd (B1.out.trans (hb9.mono B1.out.size));have G2:=Hd (G1.out.below hb9 G1.out.lt);have Q2:=Hd hblk;clear hblk hq7 hq1 hb9 k1 k2 k3 hc0 hd1 hd2 hd3 hub hvb;generalize w9=w2 at*;have y3:=Q2.out.cell 3;simp only[bK,bL,bM]at y3
    by_cases hs1:s<1∨3<s
    ·have HXS2:=Hd (HXS.out HE1.out HN.out hs1)
     by_cases hs0:s=0
     ·have hl1:((s:Int)==0)=true:=(by rw[beq_iff_eq];omega);clear hs0 hs1;go_wp2_with (refine Aa rfl 44 (.tmp 4) (.tmp 51) rfl g #[.slice none 0 0,.slice none 0 0,.slice none 0 0,.int .u8 0,.slice none 0 0,.slice none 0 0] rfl rfl 44 #[.slice none 0 0,.slice none 0 0,.slice none 0 0,.int .u8 0,.slice none 0 0,.slice none 0 0] G2.out (by kernel_rfl) rfl rfl ?_);rintro w9 hblk hbl hoth hsize;have P9:=Hd hblk;have B9:=Hd (B2.out.trans (hbl w.heap.size (by rw[HG.out];exact lR)));clear hblk hbl hoth hsize;go_wp2_with fail;refine bodyPost_ret (v:=.tuple #[.agg #[.slice none 0 0,.slice none 0 0,.slice none 0 0,.int .u8 0,.slice none 0 0,.slice none 0 0],.int .i64 (p:Nat),.int .i64 3]) (Ap Tryz.results186 _ _ g _ _ _ rfl P9.out Tryz.underlying44 rfl (by kernel_rfl)) rfl ?_;exact HS.out _ _ rfl HXS2.out (fun h=>absurd h (by decide)) (LeafW.none _ _) B9.out
     ·have hl1:((s:Int)==0)=false:=(by rw[beq_eq_false_iff_ne];omega);have hl2:decide ((s:Int)>3)=true:=decide_eq_true (by omega);clear hs0 hs1;go_wp2_with (refine Aa rfl 44 (.tmp 4) (.tmp 51) rfl g #[.slice none 0 0,.slice none 0 0,.slice none 0 0,.int .u8 0,.slice none 0 0,.slice none 0 0] rfl rfl 44 #[.slice none 0 0,.slice none 0 0,.slice none 0 0,.int .u8 0,.slice none 0 0,.slice none 0 0] G2.out (by kernel_rfl) rfl rfl ?_);rintro w9 hblk hbl hoth hsize;have P9:=Hd hblk;have B9:=Hd (B2.out.trans (hbl w.heap.size (by rw[HG.out];exact lR)));clear hblk hbl hoth hsize;go_wp2_with fail;refine bodyPost_ret (v:=.tuple #[.agg #[.slice none 0 0,.slice none 0 0,.slice none 0 0,.int .u8 0,.slice none 0 0,.slice none 0 0],.int .i64 (p:Nat),.int .i64 3]) (Ap Tryz.results186 _ _ g _ _ _ rfl P9.out Tryz.underlying44 rfl (by kernel_rfl)) rfl ?_;exact HS.out _ _ rfl HXS2.out (fun h=>absurd h (by decide)) (LeafW.none _ _) B9.out
    ·have hl1:((s:Int)==0)=false:=(by rw[beq_eq_false_iff_ne];omega);have hl2:decide ((s:Int)>3)=false:=decide_eq_false (by omega);have HSS:=Hd hs1;have HNI:=Hd (show wrap64 ((n1:Int)+1)=((n1+1:Nat):Int) by have:=HN.out;unfold wrap64;omega)
     by_cases hs3:s=3
     ·have hq3:((s:Int)==3)=true:=(by rw[beq_iff_eq];omega);have HC52:=Hd (HC5.out HE1.out HN.out hs3);clear hs1 hs3;go_wp2_with fail;rw[HNI.out];refine(HC52.out w2 B2.out).mono ?_;rintro e w3 ⟨u5,nx5,rfl,hu5,hb⟩;have B3:=Hd (B2.out.trans (hb.mono B2.out.size));have G3:=Hd (G2.out.below hb G2.out.lt);have Q3:=Hd (Q2.out.below hb Q2.out.lt);clear hb
      by_cases h5:e5=0
      ·have HE5:=Hd h5;have h5b:((e5:Int) !=0)=false:=(by rw[bne_eq_false_iff_eq];omega);obtain⟨rfl,hrows⟩:=hu5 h5;obtain⟨ub5,uo5,uc5,a5,c5,hub,rfl,k1,q1⟩:=hrows.one (HRD.out.below B3.out lR);have X5:=Hd q1;have y:=Q3.out.cell 4;have z:=Q3.out.frozen 4;simp only[bK,bL,bM]at y;clear hrows q1 h5 hu5 hub;have Q4:=Hd (show Blk (w3.setCell ⟨q,4,none⟩ (.slice a5 x5.length c5)) q 44 #[.slice a1 x1.length c1,.slice a2 x2.length c2,.slice a3 x3.length c3,.int .u8 (s:Nat),.slice a5 x5.length c5,.slice none 0 0]from by simpa using Q3.out.set 4 (.slice a5 x5.length c5));have G4:=Hd (G3.out.far (p:=⟨q,4,none⟩) (by have:=HGQ.out;simp only;omega) (.slice a5 x5.length c5));have B4:=Hd (B3.out.setCell (p:=⟨q,4,none⟩) (by have:=HGQ.out;have:=HG.out;simp only;omega) (.slice a5 x5.length c5));generalize hwk:w3.setCell ⟨q,4,none⟩ (.slice a5 x5.length c5)=w4 at Q4 G4 B4;have HWK4:=Hd hwk;clear hwk;go_wp2_with fail;rw[HWK4.out];clear y z k1;refine(HC6.out HE1.out HN.out HE5.out w4 B4.out).mono ?_;rintro e w5 ⟨u6,nx6,rfl,hu6,hb⟩;have B5:=Hd (B4.out.trans (hb.mono B4.out.size));have G5:=Hd (G4.out.below hb G4.out.lt);have Q5:=Hd (Q4.out.below hb Q4.out.lt);clear hb
       by_cases h6:e6=0
       ·have HE6:=Hd h6;have h6b:((e6:Int) !=0)=false:=(by rw[bne_eq_false_iff_eq];omega);obtain⟨rfl,hrows⟩:=hu6 h6;obtain⟨ub6,uo6,uc6,a6,c6,hub,rfl,k1,q1⟩:=hrows.one (HRD.out.below B5.out lR);have X6:=Hd q1;have y:=Q5.out.cell 5;have z:=Q5.out.frozen 5;simp only[bK,bL,bM]at y;clear hrows q1 h6 hu6 hub;have Q6:=Hd (show Blk (w5.setCell ⟨q,5,none⟩ (.slice a6 x6.length c6)) q 44 #[.slice a1 x1.length c1,.slice a2 x2.length c2,.slice a3 x3.length c3,.int .u8 (s:Nat),.slice a5 x5.length c5,.slice a6 x6.length c6]from by simpa using Q5.out.set 5 (.slice a6 x6.length c6));have G6:=Hd (G5.out.far (p:=⟨q,5,none⟩) (by have:=HGQ.out;simp only;omega) (.slice a6 x6.length c6));have B6:=Hd (B5.out.setCell (p:=⟨q,5,none⟩) (by have:=HGQ.out;have:=HG.out;simp only;omega) (.slice a6 x6.length c6));generalize hwk:w5.setCell ⟨q,5,none⟩ (.slice a6 x6.length c6)=w6 at Q6 G6 B6;have HWK6:=Hd hwk;clear hwk;go_wp2_with (refine Ai rfl 44 (.tmp 10) rfl q rfl 44 #[.slice a1 x1.length c1,.slice a2 x2.length c2,.slice a3 x3.length c3,.int .u8 (s:Nat),.slice a5 x5.length c5,.slice a6 x6.length c6] (0,0) _ (by rw[HWK6.out];exact Q6.out) Tryz.underlying44 rfl (by kernel_rfl) ?_);rw[HWK6.out];clear y z k1;refine(HRG.out a1 a2 a3 a5 a6 x1.length x2.length x3.length x5.length x6.length c1 c2 c3 c5 c6 s _).mono ?_;rintro e w7 ⟨rfl,hb⟩;have B7:=Hd (B6.out.trans (hb.mono B6.out.size));have G7:=Hd (G6.out.below hb G6.out.lt);have Q7:=Hd (Q6.out.below hb Q6.out.lt);clear hb;obtain⟨RB,hRB⟩:=eX (rlB x1.length x2.length x3.length s x5.length x6.length);rw[←hRB];have HXB2:=Hd (HXB.out HE1.out HN.out HSS.out HE5.out HE6.out RB (by rw[hRB]));clear hRB;cases RB with
        |false=>
         go_wp2_with (refine Aa rfl 44 (.tmp 4) (.tmp 93) rfl g #[.slice none 0 0,.slice none 0 0,.slice none 0 0,.int .u8 0,.slice none 0 0,.slice none 0 0] rfl rfl 44 #[.slice none 0 0,.slice none 0 0,.slice none 0 0,.int .u8 0,.slice none 0 0,.slice none 0 0] G7.out (by kernel_rfl) rfl rfl ?_);rintro w9 hblk hbl hoth hsize;have P9:=Hd hblk;have B9:=Hd (B7.out.trans (hbl w.heap.size (by rw[HG.out];exact lR)));clear hblk hbl hoth hsize;go_wp2_with fail;refine bodyPost_ret (v:=.tuple #[.agg #[.slice none 0 0,.slice none 0 0,.slice none 0 0,.int .u8 0,.slice none 0 0,.slice none 0 0],.int .i64 (p:Nat),.int .i64 3]) (Ap Tryz.results186 _ _ g _ _ _ rfl P9.out Tryz.underlying44 rfl (by kernel_rfl)) rfl ?_;exact HS.out _ _ rfl HXB2.out (fun h=>absurd h (by decide)) (LeafW.none _ _) B9.out
        |true=>
         go_wp2_with (first|(refine Ai rfl 44 (.tmp 10) rfl q rfl 44 #[.slice a1 x1.length c1,.slice a2 x2.length c2,.slice a3 x3.length c3,.int .u8 (s:Nat),.slice a5 x5.length c5,.slice a6 x6.length c6] (0,0) _ Q7.out Tryz.underlying44 rfl (by kernel_rfl) ?_)|(refine Aa rfl 44 (.tmp 4) (.tmp 95) rfl g #[.slice a1 x1.length c1,.slice a2 x2.length c2,.slice a3 x3.length c3,.int .u8 (s:Nat),.slice a5 x5.length c5,.slice a6 x6.length c6] rfl rfl 44 #[.slice none 0 0,.slice none 0 0,.slice none 0 0,.int .u8 0,.slice none 0 0,.slice none 0 0] G7.out (by kernel_rfl) rfl rfl ?_));rintro w20 hblk hbl hoth hsize;have P20:=Hd hblk;have B20:=Hd (B7.out.trans (hbl w.heap.size (by rw[HG.out];exact lR)));clear hblk hbl hoth hsize;go_wp2_with fail;refine bodyPost_ret (v:=.tuple #[.agg #[.slice a1 x1.length c1,.slice a2 x2.length c2,.slice a3 x3.length c3,.int .u8 (s:Nat),.slice a5 x5.length c5,.slice a6 x6.length c6],.int .i64 (n6:Nat),.int .i64 0]) (Ap Tryz.results186 _ _ g _ _ _ rfl P20.out Tryz.underlying44 rfl (by kernel_rfl)) rfl ?_;refine HS.out _ _ rfl HXB2.out (fun _=>rfl) ?_ B20.out;exact⟨_,_,_,_,_,_,_,_,_,_,rfl,fun W hW=>⟨X1.out W hW,X2.out W hW,X3.out W hW,X5.out W hW,X6.out W hW⟩⟩
       ·have HN6:=Hd h6;have h6b:((e6:Int) !=0)=true:=(by rw[bne_iff_ne];omega);clear h6 hu6;go_wp2_with (refine Aa rfl 44 (.tmp 4) (.tmp 83) rfl g #[.slice none 0 0,.slice none 0 0,.slice none 0 0,.int .u8 0,.slice none 0 0,.slice none 0 0] rfl rfl 44 #[.slice none 0 0,.slice none 0 0,.slice none 0 0,.int .u8 0,.slice none 0 0,.slice none 0 0] G5.out (by kernel_rfl) rfl rfl ?_);rintro w9 hblk hbl hoth hsize;have P9:=Hd hblk;have B9:=Hd (B5.out.trans (hbl w.heap.size (by rw[HG.out];exact lR)));clear hblk hbl hoth hsize;go_wp2_with fail;refine bodyPost_ret (v:=.tuple #[.agg #[.slice none 0 0,.slice none 0 0,.slice none 0 0,.int .u8 0,.slice none 0 0,.slice none 0 0],.int .i64 (p:Nat),.int .i64 (e6:Nat)]) (Ap Tryz.results186 _ _ g _ _ _ rfl P9.out Tryz.underlying44 rfl (by kernel_rfl)) rfl ?_;exact HS.out _ _ rfl (HX6.out HE1.out HN.out HSS.out HE5.out HN6.out) (fun h=>absurd h HN6.out) (LeafW.none _ _) B9.out
      ·have HN5:=Hd h5;have h5b:((e5:Int) !=0)=true:=(by rw[bne_iff_ne];omega);clear h5 hu5;go_wp2_with (refine Aa rfl 44 (.tmp 4) (.tmp 67) rfl g #[.slice none 0 0,.slice none 0 0,.slice none 0 0,.int .u8 0,.slice none 0 0,.slice none 0 0] rfl rfl 44 #[.slice none 0 0,.slice none 0 0,.slice none 0 0,.int .u8 0,.slice none 0 0,.slice none 0 0] G3.out (by kernel_rfl) rfl rfl ?_);rintro w9 hblk hbl hoth hsize;have P9:=Hd hblk;have B9:=Hd (B3.out.trans (hbl w.heap.size (by rw[HG.out];exact lR)));clear hblk hbl hoth hsize;go_wp2_with fail;refine bodyPost_ret (v:=.tuple #[.agg #[.slice none 0 0,.slice none 0 0,.slice none 0 0,.int .u8 0,.slice none 0 0,.slice none 0 0],.int .i64 (p:Nat),.int .i64 (e5:Nat)]) (Ap Tryz.results186 _ _ g _ _ _ rfl P9.out Tryz.underlying44 rfl (by kernel_rfl)) rfl ?_;exact HS.out _ _ rfl (HX5.out HE1.out HN.out HSS.out HN5.out) (fun h=>absurd h HN5.out) (LeafW.none _ _) B9.out
     ·have hq3:((s:Int)==3)=false:=(by rw[beq_eq_false_iff_ne];omega);obtain⟨hx5,hn5,he5⟩:=HN5.out hs3;have HE5:=Hd he5;have HV5:=Hd hx5;clear hs1 hs3 hx5 he5;go_wp2_with fail;rw[HNI.out,←hn5];clear hn5;refine(HC6.out HE1.out HN.out HE5.out w2 B2.out).mono ?_;rintro e w3 ⟨u6,nx6,rfl,hu6,hb⟩;have B3:=Hd (B2.out.trans (hb.mono B2.out.size));have G3:=Hd (G2.out.below hb G2.out.lt);have Q3:=Hd (Q2.out.below hb Q2.out.lt);clear hb
      by_cases h6:e6=0
      ·have HE6:=Hd h6;have h6b:((e6:Int) !=0)=false:=(by rw[bne_eq_false_iff_eq];omega);obtain⟨rfl,hrows⟩:=hu6 h6;obtain⟨ub6,uo6,uc6,a6,c6,hub,rfl,k1,q1⟩:=hrows.one (HRD.out.below B3.out lR);have X6:=Hd q1;have y:=Q3.out.cell 5;have z:=Q3.out.frozen 5;simp only[bK,bL,bM]at y;clear hrows q1 h6 hu6 hub;have Q4:=Hd (show Blk (w3.setCell ⟨q,5,none⟩ (.slice a6 x6.length c6)) q 44 #[.slice a1 x1.length c1,.slice a2 x2.length c2,.slice a3 x3.length c3,.int .u8 (s:Nat),.slice none 0 0,.slice a6 x6.length c6]from by simpa using Q3.out.set 5 (.slice a6 x6.length c6));have G4:=Hd (G3.out.far (p:=⟨q,5,none⟩) (by have:=HGQ.out;simp only;omega) (.slice a6 x6.length c6));have B4:=Hd (B3.out.setCell (p:=⟨q,5,none⟩) (by have:=HGQ.out;have:=HG.out;simp only;omega) (.slice a6 x6.length c6));generalize hwk:w3.setCell ⟨q,5,none⟩ (.slice a6 x6.length c6)=w4 at Q4 G4 B4;have HWK4:=Hd hwk;clear hwk;go_wp2_with (refine Ai rfl 44 (.tmp 10) rfl q rfl 44 #[.slice a1 x1.length c1,.slice a2 x2.length c2,.slice a3 x3.length c3,.int .u8 (s:Nat),.slice none 0 0,.slice a6 x6.length c6] (0,0) _ (by rw[HWK4.out];exact Q4.out) Tryz.underlying44 rfl (by kernel_rfl) ?_);rw[HWK4.out];clear y z k1;refine(HRG.out a1 a2 a3 none a6 x1.length x2.length x3.length 0 x6.length c1 c2 c3 0 c6 s _).mono ?_;rintro e w5 ⟨rfl,hb⟩;have B5:=Hd (B4.out.trans (hb.mono B4.out.size));have G5:=Hd (G4.out.below hb G4.out.lt);have Q5:=Hd (Q4.out.below hb Q4.out.lt);clear hb;obtain⟨RB,hRB⟩:=eX (rlB x1.length x2.length x3.length s 0 x6.length);rw[←hRB];have HXB2:=Hd (HXB.out HE1.out HN.out HSS.out HE5.out HE6.out RB (by rw[hRB];rw[HV5.out];rfl));clear hRB;cases RB with
       |false=>
        go_wp2_with (refine Aa rfl 44 (.tmp 4) (.tmp 93) rfl g #[.slice none 0 0,.slice none 0 0,.slice none 0 0,.int .u8 0,.slice none 0 0,.slice none 0 0] rfl rfl 44 #[.slice none 0 0,.slice none 0 0,.slice none 0 0,.int .u8 0,.slice none 0 0,.slice none 0 0] G5.out (by kernel_rfl) rfl rfl ?_);rintro w9 hblk hbl hoth hsize;have P9:=Hd hblk;have B9:=Hd (B5.out.trans (hbl w.heap.size (by rw[HG.out];exact lR)));clear hblk hbl hoth hsize;go_wp2_with fail;refine bodyPost_ret (v:=.tuple #[.agg #[.slice none 0 0,.slice none 0 0,.slice none 0 0,.int .u8 0,.slice none 0 0,.slice none 0 0],.int .i64 (p:Nat),.int .i64 3]) (Ap Tryz.results186 _ _ g _ _ _ rfl P9.out Tryz.underlying44 rfl (by kernel_rfl)) rfl ?_;exact HS.out _ _ rfl HXB2.out (fun h=>absurd h (by decide)) (LeafW.none _ _) B9.out
       |true=>
        go_wp2_with (first|(refine Ai rfl 44 (.tmp 10) rfl q rfl 44 #[.slice a1 x1.length c1,.slice a2 x2.length c2,.slice a3 x3.length c3,.int .u8 (s:Nat),.slice none 0 0,.slice a6 x6.length c6] (0,0) _ Q5.out Tryz.underlying44 rfl (by kernel_rfl) ?_)|(refine Aa rfl 44 (.tmp 4) (.tmp 95) rfl g #[.slice a1 x1.length c1,.slice a2 x2.length c2,.slice a3 x3.length c3,.int .u8 (s:Nat),.slice none 0 0,.slice a6 x6.length c6] rfl rfl 44 #[.slice none 0 0,.slice none 0 0,.slice none 0 0,.int .u8 0,.slice none 0 0,.slice none 0 0] G5.out (by kernel_rfl) rfl rfl ?_));rintro w20 hblk hbl hoth hsize;have P20:=Hd hblk;have B20:=Hd (B5.out.trans (hbl w.heap.size (by rw[HG.out];exact lR)));clear hblk hbl hoth hsize;go_wp2_with fail;refine bodyPost_ret (v:=.tuple #[.agg #[.slice a1 x1.length c1,.slice a2 x2.length c2,.slice a3 x3.length c3,.int .u8 (s:Nat),.slice none 0 0,.slice a6 x6.length c6],.int .i64 (n6:Nat),.int .i64 0]) (Ap Tryz.results186 _ _ g _ _ _ rfl P20.out Tryz.underlying44 rfl (by kernel_rfl)) rfl ?_;refine HS.out _ _ rfl HXB2.out (fun _=>rfl) ?_ B20.out;exact⟨_,_,_,_,_,_,_,_,_,_,by rw[HV5.out];rfl,fun W hW=>⟨X1.out W hW,X2.out W hW,X3.out W hW,by rw[HV5.out];exact Cf W,X6.out W hW⟩⟩
      ·have HN6:=Hd h6;have h6b:((e6:Int) !=0)=true:=(by rw[bne_iff_ne];omega);clear h6 hu6;go_wp2_with (refine Aa rfl 44 (.tmp 4) (.tmp 83) rfl g #[.slice none 0 0,.slice none 0 0,.slice none 0 0,.int .u8 0,.slice none 0 0,.slice none 0 0] rfl rfl 44 #[.slice none 0 0,.slice none 0 0,.slice none 0 0,.int .u8 0,.slice none 0 0,.slice none 0 0] G3.out (by kernel_rfl) rfl rfl ?_);rintro w9 hblk hbl hoth hsize;have P9:=Hd hblk;have B9:=Hd (B3.out.trans (hbl w.heap.size (by rw[HG.out];exact lR)));clear hblk hbl hoth hsize;go_wp2_with fail;refine bodyPost_ret (v:=.tuple #[.agg #[.slice none 0 0,.slice none 0 0,.slice none 0 0,.int .u8 0,.slice none 0 0,.slice none 0 0],.int .i64 (p:Nat),.int .i64 (e6:Nat)]) (Ap Tryz.results186 _ _ g _ _ _ rfl P9.out Tryz.underlying44 rfl (by kernel_rfl)) rfl ?_;exact HS.out _ _ rfl (HX6.out HE1.out HN.out HSS.out HE5.out HN6.out) (fun h=>absurd h HN6.out) (LeafW.none _ _) B9.out
  ·have HN:=Hd h2;have hd1:decide ((n1:Int)≥(ln:Int))=true:=decide_eq_true (by omega);have hd2:decide ((ln:Int)≤(n1:Int))=true:=decide_eq_true (by omega);have hd3:decide (ln≤n1)=true:=decide_eq_true (by omega);clear h2 k1 k2 k3;go_wp2_with (refine Aa rfl 44 (.tmp 4) (.tmp 27) rfl g #[.slice none 0 0,.slice none 0 0,.slice none 0 0,.int .u8 0,.slice none 0 0,.slice none 0 0] rfl rfl 44 #[.slice none 0 0,.slice none 0 0,.slice none 0 0,.int .u8 0,.slice none 0 0,.slice none 0 0] G1.out (by kernel_rfl) rfl rfl ?_);rintro w9 hblk hbl hoth hsize;have P9:=Hd hblk;have B9:=Hd (B1.out.trans (hbl w.heap.size (by rw[HG.out];exact lR)));clear hblk hbl hoth hsize;go_wp2_with fail;refine bodyPost_ret (v:=.tuple #[.agg #[.slice none 0 0,.slice none 0 0,.slice none 0 0,.int .u8 0,.slice none 0 0,.slice none 0 0],.int .i64 (p:Nat),.int .i64 4]) (Ap Tryz.results186 _ _ g _ _ _ rfl P9.out Tryz.underlying44 rfl (by kernel_rfl)) rfl ?_;exact HS.out _ _ rfl (HX2.out HE1.out (by have:=HN.out;omega)) (fun h=>absurd h (by decide)) (LeafW.none _ _) B9.out
 ·have HN1:=Hd h1;have h1b:((e1:Int) !=0)=true:=(by rw[bne_iff_ne];omega);clear h1 hu1;go_wp2_with (refine Aa rfl 44 (.tmp 4) (.tmp 20) rfl g #[.slice none 0 0,.slice none 0 0,.slice none 0 0,.int .u8 0,.slice none 0 0,.slice none 0 0] rfl rfl 44 #[.slice none 0 0,.slice none 0 0,.slice none 0 0,.int .u8 0,.slice none 0 0,.slice none 0 0] G1.out (by kernel_rfl) rfl rfl ?_);rintro w9 hblk hbl hoth hsize;have P9:=Hd hblk;have B9:=Hd (B1.out.trans (hbl w.heap.size (by rw[HG.out];exact lR)));clear hblk hbl hoth hsize;go_wp2_with fail;refine bodyPost_ret (v:=.tuple #[.agg #[.slice none 0 0,.slice none 0 0,.slice none 0 0,.int .u8 0,.slice none 0 0,.slice none 0 0],.int .i64 (p:Nat),.int .i64 (e1:Nat)]) (Ap Tryz.results186 _ _ g _ _ _ rfl P9.out Tryz.underlying44 rfl (by kernel_rfl)) rfl ?_;exact HS.out _ _ rfl (HX1.out HN1.out) (fun h=>absurd h HN1.out) (LeafW.none _ _) B9.out
theorem Fy (M:List Nat):Bi 1 M=if(Bf M 0).2.2≠0 then([],[],(Bf M 0).2.2)else([(Bf M 0).1],(Bf M 0).2.1,0):=rfl
theorem Zds (M:List Nat):Bi 2 M=if(Bi 1 M).2.2≠0 then Bi 1 M else if(Bf (Bi 1 M).2.1 0).2.2≠0 then([],[],(Bf (Bi 1 M).2.1 0).2.2)else((Bi 1 M).1++[(Bf (Bi 1 M).2.1 0).1],(Bf (Bi 1 M).2.1 0).2.1,0):=rfl
theorem Zdt (M:List Nat):Bi 3 M=if(Bi 2 M).2.2≠0 then Bi 2 M else if(Bf (Bi 2 M).2.1 0).2.2≠0 then([],[],(Bf (Bi 2 M).2.1 0).2.2)else((Bi 2 M).1++[(Bf (Bi 2 M).2.1 0).1],(Bf (Bi 2 M).2.1 0).2.1,0):=rfl
theorem Nu (M:List Nat)(r1 r2 r3:List Nat×List Nat×Nat)(h1:Bf M 0=r1)(h2:Bf r1.2.1 r1.2.2=r2)(h3:Bf r2.2.1 r2.2.2=r3):
  (Bi 3 M).2.2=r3.2.2∧(r3.2.2=0→Bi 3 M=([r1.1,r2.1,r3.1],r3.2.1,0)):=by
 have v1:=Fy M;have v2:=Zds M;have v3:=Zdt M;rw[h1]at v1
 by_cases c1:r1.2.2=0
 ·rw[if_neg (by omega)]at v1;rw[v1]at v2;simp only at v2;rw[if_neg (by omega)]at v2;rw[c1]at h2;rw[h2]at v2
  by_cases c2:r2.2.2=0
  ·rw[if_neg (by omega)]at v2;rw[v2]at v3;simp only at v3;rw[if_neg (by omega)]at v3;rw[c2]at h3;rw[h3]at v3
   by_cases c3:r3.2.2=0
   ·rw[if_neg (by omega)]at v3;rw[v3];exact⟨c3.symm,fun _=>rfl⟩
   ·rw[if_pos c3]at v3;rw[v3];exact⟨rfl,fun h=>absurd h c3⟩
  ·rw[if_pos c2]at v2;rw[v2]at v3;simp only at v3;rw[if_pos c2]at v3;rw[Rg _ c2]at h3;rw[v3,←h3];exact⟨rfl,fun h=>absurd h c2⟩
 ·rw[if_pos c1]at v1;rw[v1]at v2;simp only at v2;rw[if_pos c1]at v2;rw[v2]at v3;simp only at v3;rw[if_pos c1]at v3;rw[Rg _ c1]at h2;subst h2;simp only at h3;rw[Rg _ c1]at h3;rw[v3,←h3];exact⟨rfl,fun h=>absurd h c1⟩
def Zi5 (L:List Nat)(p:Nat):Nat×LeafD×Nat:=((Br (L.drop p) 0).1,(Br (L.drop p) 0).2.1,if(Br (L.drop p) 0).1=0 then L.length-(Br (L.drop p) 0).2.2.1.length else 0)
theorem Ix {L:List Nat} {p er re:Nat} {d:LeafD} {R:List Nat}(h:Br (L.drop p) 0=(er,d,R,re)):Zi5 L p=(er,d,if er=0 then L.length-R.length else 0):=by unfold Zi5;rw[h]
theorem Yb {v:Value} {L:List Nat} {p k:Nat} {w:World} {xs:List (List Nat)} {R:List Nat} {er n:Nat}(h:Rd w v (bvs L))(hL:∀n∈L,n<256)(hl:L.length≤1000000000)(hp:p≤L.length)(hk:k≤3)(h1:(Bi k (L.drop p)).2.2=er)(h2:er=0→Bi k (L.drop p)=(xs,R,0))(hn:n=L.length-R.length):
  ∀W,Below w.heap.size w W→Calls Tryz.prog 187 #[v,.int .i64 (p:Nat),.int .i64 (k:Nat)] W (VcP v L W xs n er):=by
 intro W hW;refine(Zdr v L p k W (h.below hW lR) hL hl hp hk).mono ?_;rintro e w' ⟨u,nx,rfl,h3,h4⟩;refine⟨u,nx,by rw[h1],fun h0=> ?_,h4⟩;obtain⟨h5,h6⟩:=h3 (h1.trans h0);rw[h2 h0]at h5 h6;exact⟨by rw[hn];exact h5,h6⟩
theorem Vt (v:Value)(L:List Nat)(p:Nat)(w:World)(h:Rd w v (bvs L))(hL:∀n∈L,n<256)(hl:L.length≤1000000000)(hp:p≤L.length):
  Calls Tryz.prog 186 #[v,.int .i64 (p:Nat)] w (Zkj v L w (Zi5 L p)):=by
 obtain⟨r1,h1⟩:∃r,Bf (L.drop p) 0=r:=⟨_,rfl⟩;obtain⟨r2,h2⟩:∃r,Bf r1.2.1 r1.2.2=r:=⟨_,rfl⟩;obtain⟨r3,h3⟩:∃r,Bf r2.2.1 r2.2.2=r:=⟨_,rfl⟩;obtain⟨k1,k2⟩:=Nu _ r1 r2 r3 h1 h2 h3;have C1:=Yb h hL hl hp (Nat.le_refl 3) k1 k2 rfl;have suf:=Nt L p hp 3;rw[k1]at suf;have TK:Br (L.drop p) 0=(let r4:=Eb r3.2.1 r3.2.2 1
  let s:=Ct r4.1
  if r4.2.2≠0 then(r4.2.2,noLeafD,r4.2)else
  if s<1∨3<s then(3,noLeafD,r4.2)else
  let r5:=if s=3 then Bf r4.2.1 r4.2.2 else([],r4.2)
  let r6:=Bf r5.2.1 r5.2.2
  if r6.2.2≠0 then(r6.2.2,noLeafD,r6.2)else
  if Kg ⟨r1.1,r2.1,r3.1,s,r5.1,r6.1⟩=true then(0,⟨r1.1,r2.1,r3.1,s,r5.1,r6.1⟩,r6.2)else(3,noLeafD,r6.2)):=by
  subst h1;subst h2;subst h3;rfl
 by_cases c3:r3.2.2=0
 ·have E3:=k2 c3;obtain⟨s1,s2,-⟩:=suf c3;rw[E3]at s1 s2;simp only at s1 s2;rw[c3]at TK C1;rcases hM:r3.2.1 with _|⟨b,M⟩
  ·rw[hM]at TK C1 s1;rw[show Eb [] 0 1=([],[],4)from Cz []]at TK;simp only at TK;rw[if_pos (by decide)]at TK;refine Hk v L r1.1 r2.1 r3.1 [] [] p (L.length-([]:List Nat).length) (L.length-([]:List Nat).length+1) 0 0 0 0 0 (Zi5 L p) w h hl C1 ?_ ?_ ?_ ?_ (by decide) ?_ ?_ ?_ ?_ ?_ ?_
   ·intro _ hx;exact absurd hx (by simp)
   ·intro _;exact⟨rfl,rfl,rfl⟩
   ·intro _ hx;exact absurd hx (by simp)
   ·intro _ hx;exact absurd hx (by simp)
   ·intro hx;exact absurd rfl hx
   ·intro _ _;exact Ix TK
   ·intro _ hx;exact absurd hx (by simp)
   ·intro _ hx;exact absurd hx (by simp)
   ·intro _ hx;exact absurd hx (by simp)
   ·intro _ hx;exact absurd hx (by simp)
  ·rw[hM]at TK C1 s1 s2;rw[show Eb (b::M) 0 1=([b],M,0)from Cz (b::M)]at TK;simp only[Zdf]at TK;rw[if_neg (by decide)]at TK;obtain⟨n1,hn1⟩:=eX (L.length-(b::M).length);rw[←hn1]at s1 C1;have hlt:n1<L.length:=(by rw[hn1];simp only[bO]at s2⊢;omega);have hdr:L.drop (n1+1)=M:=by
    rw[←gG,←s1];rfl
   have hat:L[n1]? =some b:=by
    have:(L.drop n1)[0]? =some b:=(by rw[←s1];rfl);rw[List.getElem?_drop]at this;simpa using this
   have hb256:b<256:=hL b (List.mem_of_getElem? hat);obtain⟨r5,h5⟩:=eX (if b=3 then Bf M 0 else([],M,0));rw[←h5]at TK;obtain⟨n5,hn5⟩:=eX (if b=3 then L.length-r5.2.1.length else n1+1);obtain⟨r6,h6⟩:=eX (Bf r5.2.1 r5.2.2);rw[←h6]at TK;have S5:r5.2.2=0→n5≤L.length∧L.drop n5=r5.2.1:=by
    intro e5
    by_cases c:b=3
    ·rw[if_pos c]at h5 hn5;have q:=Nt L (n1+1) hlt 1;rw[hdr,Fy,←h5,if_neg (by omega)]at q;obtain⟨q1,q2,-⟩:=q rfl;rw[hn5];exact⟨Nat.sub_le _ _,q1.symm⟩
    ·rw[if_neg c]at h5 hn5;rw[hn5,h5];exact⟨hlt,hdr⟩
   refine Hk v L r1.1 r2.1 r3.1 r5.1 r6.1 p n1 n5 (L.length-r6.2.1.length) 0 r5.2.2 r6.2.2 b (Zi5 L p) w h hl C1 ?_ ?_ ?_ ?_ hb256 ?_ ?_ ?_ ?_ ?_ ?_
   ·intro _ _ c;rw[if_pos c]at h5 hn5;refine Yb (k:=1) (R:=r5.2.1) h hL hl hlt (by decide) ?_ ?_ hn5
    ·rw[hdr,Fy,←h5];split
     ·rfl
     ·rename_i q;exact(Decidable.not_not.1 q).symm
    ·intro e5;rw[hdr,Fy,←h5,if_neg (by omega)]
   ·intro c;rw[if_neg c]at h5 hn5;rw[h5];exact⟨rfl,hn5,rfl⟩
   ·intro _ _ e5;obtain⟨q1,q2⟩:=S5 e5;rw[e5,←q2]at h6;refine Yb (k:=1) (R:=r6.2.1) h hL hl q1 (by decide) ?_ ?_ rfl
    ·rw[Fy,←h6];split
     ·rfl
     ·rename_i q;exact(Decidable.not_not.1 q).symm
    ·intro e6;rw[Fy,←h6,if_neg (by omega)]
   ·intro _ _;simp[bvs,hat]
   ·intro hx;exact absurd rfl hx
   ·intro _ hx;exact absurd hlt (by omega)
   ·intro _ _ c;rw[if_pos c]at TK;exact Ix TK
   ·intro _ _ c e5;rw[if_neg c]at TK;rw[Rg _ e5]at h6;rw[h6]at TK;simp only at TK;rw[if_pos e5]at TK;rw[Ix TK,if_neg e5]
   ·intro _ _ c e5 e6;rw[if_neg c,if_pos e6]at TK;rw[Ix TK,if_neg e6]
   ·intro _ _ c e5 e6 q hq;rw[if_neg c,if_neg (by omega)]at TK;unfold Kg at TK;simp only[hq]at TK;cases q with
    |true=>
     rw[if_pos rfl]at TK;rw[Ix TK];rfl
    |false=>
     rw[if_neg (by decide)]at TK;rw[Ix TK];rfl
 ·rw[Zdh _ c3]at TK;simp only at TK;rw[if_pos c3]at TK;refine Hk v L r1.1 r2.1 r3.1 [] [] p (L.length-r3.2.1.length) (L.length-r3.2.1.length+1) 0 r3.2.2 0 0 0 (Zi5 L p) w h hl C1 ?_ ?_ ?_ ?_ (by decide) ?_ ?_ ?_ ?_ ?_ ?_
  ·intro e;exact absurd e c3
  ·intro _;exact⟨rfl,rfl,rfl⟩
  ·intro e;exact absurd e c3
  ·intro e;exact absurd e c3
  ·intro _;rw[Ix TK,if_neg c3]
  ·intro e;exact absurd e c3
  ·intro e;exact absurd e c3
  ·intro e;exact absurd e c3
  ·intro e;exact absurd e c3
  ·intro e;exact absurd e c3
end Go.Proofs.YtfofaiommeckbaaGreat
