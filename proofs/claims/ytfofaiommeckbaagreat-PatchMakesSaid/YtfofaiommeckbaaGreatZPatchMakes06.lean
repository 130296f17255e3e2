/- Walks: the reference's Vec, List; wire.PutVec, wire.PutList. -/
import Derived.Test.YtfofaiommeckbaaGreatZPatchMakesB
import Derived.Test.YtfofaiommeckbaaGreatZPatchMakes05
import Derived.Deep.RegionWith
open List renaming length_append → aG
set_option linter.unusedVariables false
set_option maxRecDepth 100000
set_option maxHeartbeats 40000000
namespace Go.Proofs.YtfofaiommeckbaaGreat
open Go.RowKit WireM
def As (v:List Nat):List Nat:=lenB v.length++v
def Mu (l:List (List Nat)):List Nat:=(l.map As).flatten
def RdL (w:World)(v:Value)(rows:List (List Nat)):Prop:=
 ∃vs:List Value,Rd w v vs∧vs.length=rows.length∧∀(i:Nat) r,rows[i]? =some r→∃u,vs[i]? =some u∧Rd w u (bvs r)
theorem RdL.below {w w':World} {B:Nat} {v:Value} {rows:List (List Nat)}(h:RdL w v rows)(hb:Below B w w')(hB:w.heap.size≤B):RdL w' v rows:=by
 obtain⟨vs,h1,h2,h3⟩:=h;refine⟨vs,h1.below hb hB,h2,?_⟩;intro i r hr;obtain⟨u,h4,h5⟩:=h3 i r hr;exact⟨u,h4,h5.below hb hB⟩
theorem Ax (v:List Nat)(h:v.length<1073741824):(As v).length≤v.length+4:=by
 rw[As,aG,lenB_len h];unfold lenS
 split<;>(try split)<;>(try split)<;>omega
theorem Fg {v:List Nat}(h:v.length<1073741824)(hv:∀n∈v,n<256):∀n∈As v,n<256:=by
 intro n hn;rw[As,List.mem_append]at hn;rcases hn with hn|hn
 ·exact lenB_lt h n hn
 ·exact hv n hn
theorem Db (v:Value)(L:List Nat)(w:World)(h:Rd w v (bvs L))(hl:L.length<1073741824):
  Calls Tryz.prog 147 #[v] w fun e w'=>∃v',e=.returned v'∧Own w' w.heap.size 5 v' (bvs (As L))∧Below w.heap.size w w':=by
 have HN:=Hd (Zby L.length w hl);have e2:(lenB L.length).length≤4:=by
  rw[lenB_len hl];unfold lenS;split<;>(try split)<;>(try split)<;>omega
 obtain⟨a,cap,rfl,_⟩:=id h;rw[bvs_len]at h⊢;have HR:=Hd h;clear h;go_enter Tryz.func147,Tryz.ntmps147;go_wp2_with fail;refine HN.out.mono ?_;rintro e w1 ⟨v1,rfl,hown,hb⟩;have HO:=Hd hown;have HB:=Hd hb;have HR1:=Hd (HR.out.below hb lR);have hsz:=hb.size;clear hown hb;go_wp2_with (at_builtin;refine Am rfl (.tmp 5) (.tmp 6) 28 rfl w.heap.size 5 _ 1 Cm _ _ rfl HO.out _ (bvs L) rfl HR1.out (Ck _) ?c2 ?c3 ?_);case c2=>rw[bvs_len,bvs_len];omega
 case c3=>exact hsz
 rintro v2 w2 hown-hb2;have HO2:=Hd hown;have HB2:=Hd (HB.out.trans hb2);clear hown hb2;go_wp2_with fail;go_ret;refine⟨_,rfl,?_,HB2.out⟩;rw[As,Cg];exact HO2.out
theorem Ej (b v:Value)(B L:List Nat)(w:World)(hb:Rd w b (bvs B))(h:Rd w v (bvs L))(hB:B.length<274877906944)(hl:L.length<1073741824):
  Calls Tryz.prog 170 #[b,v] w fun e w'=>∃v',e=.returned v'∧Own w' w.heap.size 5 v' (bvs (B++As L))∧Below w.heap.size w w':=by
 have HN:=Hd (Yc b B L.length w hb (by omega) hl);have e2:(lenB L.length).length≤4:=by
  rw[lenB_len hl];unfold lenS;split<;>(try split)<;>(try split)<;>omega
 obtain⟨a,cap,rfl,_⟩:=id h;rw[bvs_len]at h⊢;have HR:=Hd h;clear h hb;go_enter Tryz.func170,Tryz.ntmps170;go_wp2_with fail;refine HN.out.mono ?_;rintro e w1 ⟨v1,rfl,hown,hb⟩;have HO:=Hd hown;have HB:=Hd hb;have HR1:=Hd (HR.out.below hb lR);have hsz:=hb.size;clear hown hb;go_wp2_with (at_builtin;refine Am rfl (.tmp 8) (.tmp 9) 28 rfl w.heap.size 5 _ 1 Cm _ _ rfl HO.out _ (bvs L) rfl HR1.out (Ck _) ?c2 ?c3 ?_);case c2=>rw[bvs_len,bvs_len,aG];omega
 case c3=>exact hsz
 rintro v2 w2 hown-hb2;have HO2:=Hd hown;have HB2:=Hd (HB.out.trans hb2);clear hown hb2;go_wp2_with fail;go_ret;refine⟨_,rfl,?_,HB2.out⟩;rw[As,←List.append_assoc,Cg];exact HO2.out
theorem Qa (l:List (List Nat))(r:List Nat):Mu (l++[r])=Mu l++As r:=by simp[Mu]
theorem Um:∀(l:List (List Nat)),(∀r∈l,r.length≤200)→(Mu l).length≤l.length*204:=by
 intro l
 induction l with
 |nil=>intro _;simp[Mu]
 |cons r l ih=>
  intro h;have h1:=ih fun q hq=>h q (by simp[hq]);have h2:=Ax r (by have:=h r (by simp);omega);have h3:=h r (by simp);simp only[Mu,List.map_cons,List.flatten_cons,aG,List.length_cons]at h1⊢;omega
theorem Yg {l:List (List Nat)} {r:Nat}(h:r<l.length):l.take (r+1)=l.take r++[l[r]]:=List.take_succ_eq_append_getElem h
theorem RdL.cases {w:World} {v:Value} {rows:List (List Nat)}(h:RdL w v rows):
  ∃a cap,v=.slice a rows.length cap∧rows.length≤cap∧cap≤maxLen∧∀i (hi:i<rows.length),∃b off u,a=some ⟨b,off,none⟩∧b<w.heap.size∧w.cell? ⟨b,off+i,none⟩=some u∧Rd w u (bvs rows[i]):=by
 obtain⟨vs,h1,h2,h3⟩:=h;obtain⟨a,cap,rfl,h4,h5,h6⟩:=h1;rw[h2]at h4;refine⟨a,cap,by rw[h2],h4,h5,?_⟩;intro i hi;obtain⟨u,hu,hr⟩:=h3 i _ (List.getElem?_eq_getElem hi);rcases h6 with⟨h6,_⟩|⟨b,off,rfl,hc⟩
 ·rw[h6]at h2;simp at h2;omega
 ·have:=hc i u hu;exact⟨b,off,u,rfl,World.block_lt_of_cell? w _ this,this,hr⟩
end Go.Proofs.YtfofaiommeckbaaGreat
