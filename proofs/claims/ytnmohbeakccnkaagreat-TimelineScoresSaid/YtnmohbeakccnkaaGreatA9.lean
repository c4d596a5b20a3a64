/- Part 9 of the proof: an abstract machine for the program, its soundness, contracts of functions, and the plain law; no conditions. -/
import Derived.Test.YtnmohbeakccnkaaGreatA8
set_option linter.all false
set_option maxRecDepth 8000
namespace Go.Hm
open Go.Proofs
def gS(w:Nat→aj→Bool)(aO:Int):Nat→List aj→List ah→List ah
 | _,[],l=>l
 | i,m::r,l=>gS w aO (i+1) r (gE (w i m) aO m.ID l)
theorem ji(w:Nat→aj→Bool)(aO:Int):∀(ms:List aj) (i:Nat) (l:List ah),(gS w aO i ms l).length≤l.length+ms.length
 | [],i,l=>Nat.le_refl _
 | m::r,i,l=>by
  refine Nat.le_trans (ji w aO r (i+1) _) ?_;have:=cS (w i m) aO m.ID l;rw[List.length_cons];omega
set_option maxHeartbeats 2000000 in
theorem N8{fn:FuncId}{w:Nat→aj→Bool}(s:ae)(aO:Int)(l:List ah)(hm:s.aa.length≤1000000)(hl:l.length≤100000000)
  (hp:∀(i:Nat) (m:aj),i<s.aa.length→m∈s.aa→ ∀o:List ah,JJ fn [nI i,.agg m.enc] [] (nB (w i m)) []):
  JJ 83 [.ptr (.ext 0) 0,.fn fn [] []] [bd s aO l] (.dE []) [bd s aO (gS w aO 0 s.aa l)]:=by
 have fw:maxLen≤9223372036854775807:=by decide
 refine XX.intro Tryz.func83 rfl rfl rfl rfl ?_;obtain⟨R,hR⟩:∃R,gS w aO 0 s.aa l=R:=⟨_,rfl⟩
 rw[hR];refine⟨_,al _ _,?_⟩;refine⟨[0,1,10,11,12],[.ext 0],fun q S=>∃(k:Nat) (o:List ah),k≤s.aa.length∧q=s.aa.length-k∧o.length≤l.length+k∧gS w aO k (s.aa.drop k) o=R∧
  S=St.mk' [(0,.ptr (.ext 0) 0),(1,.fn fn [] []),(10,.p (.sl 22 (s.aa.map aj.enc))),(11,nI s.aa.length),(12,nI k)] [(.ext 0,bd s aO o)],
  ⟨_,0,l,by omega,rfl,by omega,hR,rfl⟩,?_⟩
 rintro q S ⟨k,o,hk,rfl,ho,aw,rfl⟩;refine ab (fun h=>?_) (fun h=>?_)
 ·have h:=of_decide_eq_true h;have aN:k<s.aa.length:=by omega
  have bW:=ao aj.enc s.aa k aN;have cV:=av aN;rw[aF aN]at aw;obtain⟨m,Lj⟩:∃m,m=s.aa.getD k default:=⟨_,rfl⟩
  rw[←Lj]at bW cV aw;have aw:gS w aO (k+1) (s.aa.drop (k+1)) (gE (w k m) aO m.ID o)=R:=aw;have Ei:=cS (w k m) aO m.ID o;refine⟨_,bW,?_⟩;refine⟨rfl,?_⟩;refine⟨[.no false,.no false,.no false,.no false,.no true,.no false,.ns (.own 5)],rfl,?_⟩;refine⟨_,hp k _ aN cV o,?_⟩;refine⟨rfl,?_⟩;refine⟨_,_,ix s aO o (w k m) m.ID (by omega),rfl,?_⟩;refine⟨_,wrap_i64 (by omega) (by omega),?_⟩;exact⟨_,by omega,k+1,_,by omega,rfl,by omega,aw,rfl⟩
 ·have h:=of_decide_eq_false h;rw[List.drop_eq_nil_of_le (by omega)]at aw;have aw:o=R:=aw;subst aw;exact⟨rfl,rfl⟩
set_option maxHeartbeats 2000000 in
theorem Ym{ty:TypeId}{cs:List PV}{fn:FuncId}{w:Nat→aj→Bool}(s:ae)(aO:Int)(l:List ah)(hm:s.aa.length≤1000000)(hl:l.length≤100000000)
  (hp:∀(i:Nat) (m:aj),i<s.aa.length→m∈s.aa→ ∀o:List ah,JJ fn [nI i,.agg m.enc,.ptr (.ext 0) 0] [.pure ty cs] (nB (w i m)) [.pure ty cs]):
  JJ 83 [.ptr (.ext 0) 0,.fn fn [] [.ptr (.ext 1) 0]] [bd s aO l,.pure ty cs] (.dE []) [bd s aO (gS w aO 0 s.aa l),.pure ty cs]:=by
 have fw:maxLen≤9223372036854775807:=by decide
 refine XX.intro Tryz.func83 rfl rfl rfl rfl ?_;obtain⟨R,hR⟩:∃R,gS w aO 0 s.aa l=R:=⟨_,rfl⟩
 rw[hR];refine⟨_,al _ _,?_⟩;refine⟨[0,1,10,11,12],[.ext 0,.ext 1],fun q S=>∃(k:Nat) (o:List ah),k≤s.aa.length∧q=s.aa.length-k∧o.length≤l.length+k∧gS w aO k (s.aa.drop k) o=R∧
  S=St.mk' [(0,.ptr (.ext 0) 0),(1,.fn fn [] [.ptr (.ext 1) 0]),(10,.p (.sl 22 (s.aa.map aj.enc))),(11,nI s.aa.length),(12,nI k)] [(.ext 0,bd s aO o),(.ext 1,.pure ty cs)],
  ⟨_,0,l,by omega,rfl,by omega,hR,rfl⟩,?_⟩
 rintro q S ⟨k,o,hk,rfl,ho,aw,rfl⟩;refine ab (fun h=>?_) (fun h=>?_)
 ·have h:=of_decide_eq_true h;have aN:k<s.aa.length:=by omega
  have bW:=ao aj.enc s.aa k aN;have cV:=av aN;rw[aF aN]at aw;obtain⟨m,Lj⟩:∃m,m=s.aa.getD k default:=⟨_,rfl⟩
  rw[←Lj]at bW cV aw;have aw:gS w aO (k+1) (s.aa.drop (k+1)) (gE (w k m) aO m.ID o)=R:=aw;have Ei:=cS (w k m) aO m.ID o;refine⟨_,bW,?_⟩;refine⟨rfl,?_⟩;refine⟨[.no false,.no false,.no false,.no false,.rc [.own 5],.no false,.ns (.own 5)],rfl,?_⟩;refine⟨_,_,hp k _ aN cV o,rfl,⟨rfl,trivial⟩,?_⟩;refine⟨rfl,?_⟩;refine⟨_,_,ix s aO o (w k m) m.ID (by omega),rfl,?_⟩;refine⟨_,wrap_i64 (by omega) (by omega),?_⟩;exact⟨_,by omega,k+1,_,by omega,rfl,by omega,aw,rfl⟩
 ·have h:=of_decide_eq_false h;rw[List.drop_eq_nil_of_le (by omega)]at aw;have aw:o=R:=aw;subst aw;exact⟨rfl,rfl⟩
set_option maxHeartbeats 2000000 in
theorem SL{fn:FuncId}{w:Nat→aj→Bool}(s:ae)(aO:Int)(l:List ah)(hm:s.aa.length≤1000000)(hl:l.length≤100000000)
  (hp:∀(i:Nat) (m:aj),i<s.aa.length→m∈s.aa→ ∀o:List ah,JJ fn [nI i,.agg m.enc,.ptr (.ext 0) 0] [.mix 138 [.ptr (.ext 1) 0],bd s aO o] (nB (w i m)) [.mix 138 [.ptr (.ext 1) 0],bd s aO o]):
  JJ 83 [.ptr (.ext 0) 0,.fn fn [] [.ptr (.ext 1) 0]] [bd s aO l,.mix 138 [.ptr (.ext 0) 0]] (.dE []) [bd s aO (gS w aO 0 s.aa l),.mix 138 [.ptr (.ext 0) 0]]:=by
 have fw:maxLen≤9223372036854775807:=by decide
 refine XX.intro Tryz.func83 rfl rfl rfl rfl ?_;obtain⟨R,hR⟩:∃R,gS w aO 0 s.aa l=R:=⟨_,rfl⟩
 rw[hR];refine⟨_,al _ _,?_⟩;refine⟨[0,1,10,11,12],[.ext 0,.ext 1],fun q S=>∃(k:Nat) (o:List ah),k≤s.aa.length∧q=s.aa.length-k∧o.length≤l.length+k∧gS w aO k (s.aa.drop k) o=R∧
  S=St.mk' [(0,.ptr (.ext 0) 0),(1,.fn fn [] [.ptr (.ext 1) 0]),(10,.p (.sl 22 (s.aa.map aj.enc))),(11,nI s.aa.length),(12,nI k)] [(.ext 0,bd s aO o),(.ext 1,.mix 138 [.ptr (.ext 0) 0])],
  ⟨_,0,l,by omega,rfl,by omega,hR,rfl⟩,?_⟩
 rintro q S ⟨k,o,hk,rfl,ho,aw,rfl⟩;refine ab (fun h=>?_) (fun h=>?_)
 ·have h:=of_decide_eq_true h;have aN:k<s.aa.length:=by omega
  have bW:=ao aj.enc s.aa k aN;have cV:=av aN;rw[aF aN]at aw;obtain⟨m,Lj⟩:∃m,m=s.aa.getD k default:=⟨_,rfl⟩
  rw[←Lj]at bW cV aw;have aw:gS w aO (k+1) (s.aa.drop (k+1)) (gE (w k m) aO m.ID o)=R:=aw;have Ei:=cS (w k m) aO m.ID o;refine⟨_,bW,?_⟩;refine⟨rfl,?_⟩;refine⟨[.no false,.no false,.no false,.no false,.rc [.own 5],.no false,.ns (.own 5)],rfl,?_⟩;refine⟨_,_,hp k _ aN cV o,rfl,⟨rfl,trivial⟩,?_⟩;refine⟨rfl,?_⟩;refine⟨_,_,ix s aO o (w k m) m.ID (by omega),rfl,?_⟩;refine⟨_,wrap_i64 (by omega) (by omega),?_⟩;exact⟨_,by omega,k+1,_,by omega,rfl,by omega,aw,rfl⟩
 ·have h:=of_decide_eq_false h;rw[List.drop_eq_nil_of_le (by omega)]at aw;have aw:o=R:=aw;subst aw;exact⟨rfl,rfl⟩
set_option maxHeartbeats 2000000 in
theorem Yn{g:FuncId}{fn:FuncId}{w:Nat→aj→Bool}(s:ae)(aO:Int)(l:List ah)(hm:s.aa.length≤1000000)(hl:l.length≤100000000)
  (hp:∀(i:Nat) (m:aj),i<s.aa.length→m∈s.aa→ ∀o:List ah,JJ fn [nI i,.agg m.enc,.ptr (.ext 0) 0] [.mix 171 [.fn g [] []]] (nB (w i m)) [.mix 171 [.fn g [] []]]):
  JJ 83 [.ptr (.ext 0) 0,.fn fn [] [.ptr (.ext 1) 0]] [bd s aO l,.mix 171 [.fn g [] []]] (.dE []) [bd s aO (gS w aO 0 s.aa l),.mix 171 [.fn g [] []]]:=by
 have fw:maxLen≤9223372036854775807:=by decide
 refine XX.intro Tryz.func83 rfl rfl rfl rfl ?_;obtain⟨R,hR⟩:∃R,gS w aO 0 s.aa l=R:=⟨_,rfl⟩
 rw[hR];refine⟨_,al _ _,?_⟩;refine⟨[0,1,10,11,12],[.ext 0,.ext 1],fun q S=>∃(k:Nat) (o:List ah),k≤s.aa.length∧q=s.aa.length-k∧o.length≤l.length+k∧gS w aO k (s.aa.drop k) o=R∧
  S=St.mk' [(0,.ptr (.ext 0) 0),(1,.fn fn [] [.ptr (.ext 1) 0]),(10,.p (.sl 22 (s.aa.map aj.enc))),(11,nI s.aa.length),(12,nI k)] [(.ext 0,bd s aO o),(.ext 1,.mix 171 [.fn g [] []])],
  ⟨_,0,l,by omega,rfl,by omega,hR,rfl⟩,?_⟩
 rintro q S ⟨k,o,hk,rfl,ho,aw,rfl⟩;refine ab (fun h=>?_) (fun h=>?_)
 ·have h:=of_decide_eq_true h;have aN:k<s.aa.length:=by omega
  have bW:=ao aj.enc s.aa k aN;have cV:=av aN;rw[aF aN]at aw;obtain⟨m,Lj⟩:∃m,m=s.aa.getD k default:=⟨_,rfl⟩
  rw[←Lj]at bW cV aw;have aw:gS w aO (k+1) (s.aa.drop (k+1)) (gE (w k m) aO m.ID o)=R:=aw;have Ei:=cS (w k m) aO m.ID o;refine⟨_,bW,?_⟩;refine⟨rfl,?_⟩;refine⟨[.no false,.no false,.no false,.no false,.rc [.own 5],.no false,.ns (.own 5)],rfl,?_⟩;refine⟨_,_,hp k _ aN cV o,rfl,⟨rfl,trivial⟩,?_⟩;refine⟨rfl,?_⟩;refine⟨_,_,ix s aO o (w k m) m.ID (by omega),rfl,?_⟩;refine⟨_,wrap_i64 (by omega) (by omega),?_⟩;exact⟨_,by omega,k+1,_,by omega,rfl,by omega,aw,rfl⟩
 ·have h:=of_decide_eq_false h;rw[List.drop_eq_nil_of_le (by omega)]at aw;have aw:o=R:=aw;subst aw;exact⟨rfl,rfl⟩
open Go.Proofs
def kV(i k v n:Nat):bt:=⟨4,0,k,i,v,n,0⟩
def FJ(w:Nat→Nat→Nat→Nat→Bool)(aO:Int)(i k v:Nat):Nat→List aD→List ah→List ah
 | _,[],l=>l
 | n,x::r,l=>FJ w aO i k v (n+1) r (gE (w i k v n) aO x.ID l)
def wY(w:Nat→Nat→Nat→Nat→Bool)(aO:Int)(i k:Nat):Nat→List ax→List ah→List ah
 | _,[],l=>l
 | v,x::r,l=>wY w aO i k (v+1) r (FJ w aO i k v 0 x.ak l)
def FK(w:Nat→Nat→Nat→Nat→Bool)(aO:Int)(i:Nat):Nat→List aI→List ah→List ah
 | _,[],l=>l
 | k,x::r,l=>FK w aO i (k+1) r (wY w aO i k 0 x.ai l)
def zI(w:Nat→Nat→Nat→Nat→Bool)(aO:Int):Nat→List aj→List ah→List ah
 | _,[],l=>l
 | i,x::r,l=>zI w aO (i+1) r (FK w aO i 0 x.Cells l)
structure rl(s:ae):Prop where
 ep:s.aa.length≤10
 cells:∀i,i<s.aa.length→(s.aa.getD i default).Cells.length≤10
 dI:∀i k,i<s.aa.length→k<(s.aa.getD i default).Cells.length→s.kx i k≤10
 events:∀i k v,i<s.aa.length→k<(s.aa.getD i default).Cells.length→v<s.kx i k→(s.vo i k v).ak.length≤1000
set_option maxHeartbeats 4000000 in
theorem US{fn:FuncId}{w:Nat→Nat→Nat→Nat→Bool}{Q:Ex→St→Prop}(s:ae)(aO:Int)(hF:rl s)(i k v:Nat)(c:aI)(o:List ah)(hi:i<s.aa.length)(hk:k<(s.aa.getD i default).Cells.length)(hc:c=(s.aa.getD i default).Cells.getD k default)(hv:v≤c.ai.length)(iz:o.length≤200000000)
  (hp:∀i k v n,At s i k v n→ ∀o:List ah,JJ fn [.agg (kV i k v n).enc,.agg (s.ev i k v n).enc] [] (nB (w i k v n)) [])
  (hX:v=c.ai.length→ ∀v1:AV,Q (.exit 4) ((St.mk' [(0,.ptr (.ext 0) 0),(1,.fn fn [] []),(4,nI i),(6,nI k),(16,.p (.sl 22 (s.aa.map aj.enc))),(17,nI s.aa.length),(18,nI i),(24,.p (.sl 2 ((s.aa.getD i default).Cells.map aI.enc))),(25,nI (s.aa.getD i default).Cells.length),(26,nI k),(32,.p (.sl 2 (c.ai.map ax.enc))),(33,nI c.ai.length),(34,nI v)] [(.ext 0,bd s aO o)]).put 35 v1))
  (hN:∀S o2,v<c.ai.length→o2.length≤o.length+1000→wY w aO i k v (c.ai.drop v) o=wY w aO i k (v+1) (c.ai.drop (v+1)) o2→
   S.bM [0,1,4,6,16,17,18,24,25,26,32,33,34] [.ext 0]=St.mk' [(0,.ptr (.ext 0) 0),(1,.fn fn [] []),(4,nI i),(6,nI k),(16,.p (.sl 22 (s.aa.map aj.enc))),(17,nI s.aa.length),(18,nI i),(24,.p (.sl 2 ((s.aa.getD i default).Cells.map aI.enc))),(25,nI (s.aa.getD i default).Cells.length),(26,nI k),(32,.p (.sl 2 (c.ai.map ax.enc))),(33,nI c.ai.length),(34,nI ((v+1:Nat):Int))] [(.ext 0,bd s aO o2)]→Q .normal S):
  nA te JJ YY (cX Tryz.f90 [1,0,0,1,1,0,0,1,1,0,0,1,1,0,0,1,1,0,0]) (St.mk' [(0,.ptr (.ext 0) 0),(1,.fn fn [] []),(4,nI i),(6,nI k),(16,.p (.sl 22 (s.aa.map aj.enc))),(17,nI s.aa.length),(18,nI i),(24,.p (.sl 2 ((s.aa.getD i default).Cells.map aI.enc))),(25,nI (s.aa.getD i default).Cells.length),(26,nI k),(32,.p (.sl 2 (c.ai.map ax.enc))),(33,nI c.ai.length),(34,nI v)] [(.ext 0,bd s aO o)]) Q:=by
 have fw:maxLen≤9223372036854775807:=by decide
 have j5:(100000:Nat)≤maxLen:=by decide
 have f3:=hF.dI i k hi hk;have f4:=hF.events i k v hi hk;unfold ae.kx at f3 f4;rw[←hc]at f3 f4;refine ab (fun h=>?_) (fun h=>?_)
 ·have h:=of_decide_eq_true h;have aN:v<c.ai.length:=by omega
  have bW:=ao ax.enc c.ai v aN;have rq:s.vo i k v=c.ai.getD v default:=by unfold ae.vo;rw[hc]
  have f4:=f4 aN;have hd:=aF aN;rw[rq]at f4;obtain⟨x,hx⟩:∃x,x=c.ai.getD v default:=⟨_,rfl⟩
  rw[←hx]at bW f4 rq hd;have jZ:wY w aO i k v (c.ai.drop v) o=wY w aO i k (v+1) (c.ai.drop (v+1)) (FJ w aO i k v 0 x.ak o):=by rw[hd];rfl
  obtain⟨R,hR⟩:∃R,FJ w aO i k v 0 x.ak o=R:=⟨_,rfl⟩
  rw[hR]at jZ;obtain⟨o0,ze⟩:∃o0,o0=o:=⟨_,rfl⟩
  refine⟨_,bW,?_⟩;refine⟨rfl,?_⟩;refine⟨_,al _ _,?_⟩;refine⟨[0,1,4,6,8,16,17,18,24,25,26,32,33,34,40,41,42],[.ext 0],fun q S=>∃(n:Nat) (o:List ah),n≤x.ak.length∧q=x.ak.length-n∧o.length≤o0.length+n∧FJ w aO i k v n (x.ak.drop n) o=R∧
   S=St.mk' [(0,.ptr (.ext 0) 0),(1,.fn fn [] []),(4,nI i),(6,nI k),(8,nI v),(16,.p (.sl 22 (s.aa.map aj.enc))),(17,nI s.aa.length),(18,nI i),(24,.p (.sl 2 ((s.aa.getD i default).Cells.map aI.enc))),(25,nI (s.aa.getD i default).Cells.length),(26,nI k),(32,.p (.sl 2 (c.ai.map ax.enc))),(33,nI c.ai.length),(34,nI v),(40,.p (.sl 13 (x.ak.map aD.enc))),(41,nI x.ak.length),(42,nI n)] [(.ext 0,bd s aO o)],⟨_,0,o,by omega,rfl,by rw[ze];omega,hR,rfl⟩,?_⟩
  subst ze;rintro q S ⟨n,o,hn,rfl,zT,aw,rfl⟩;refine ab (fun h=>?_) (fun h=>?_)
  ·have h:=of_decide_eq_true h;have fl:n<x.ak.length:=by omega
   have wD:=ao aD.enc x.ak n fl;rw[aF fl]at aw;have hA:At s i k v n:=⟨hi,hk,by unfold ae.kx;rw[←hc];exact aN,by rw[rq];exact fl⟩;have Ge:s.ev i k v n=x.ak.getD n default:=by unfold ae.ev;rw[rq]
   have dP:=hp i k v n hA o;rw[Ge]at dP;obtain⟨y,hy⟩:∃y,y=x.ak.getD n default:=⟨_,rfl⟩
   rw[←hy]at wD aw dP;have aw:FJ w aO i k v (n+1) (x.ak.drop (n+1)) (gE (w i k v n) aO y.ID o)=R:=aw;have Ei:=cS (w i k v n) aO y.ID o;refine⟨_,wD,?_⟩;refine⟨rfl,?_⟩;refine⟨[.no false,.no false,.no false,.no false,.no false,.no false,.no false,.no false,.no true,.no false,.ns (.own 11)],rfl,?_⟩;refine⟨_,dP,?_⟩;refine⟨rfl,?_⟩;refine⟨_,_,ix s aO o (w i k v n) y.ID (by omega),rfl,?_⟩;refine⟨_,wrap_i64 (by omega) (by omega),?_⟩;exact⟨_,by omega,n+1,_,by omega,rfl,by omega,aw,rfl⟩
  ·have h:=of_decide_eq_false h;rw[List.drop_eq_nil_of_le (by omega)]at aw;have aw:o=R:=aw;subst aw;refine⟨_,wrap_i64 (by omega) (by omega),?_⟩;exact hN _ _ aN (by omega) jZ rfl
 ·have h:=of_decide_eq_false h;exact hX (by omega) _
set_option maxHeartbeats 4000000 in
theorem Yo{fn:FuncId}{w:Nat→Nat→Nat→Nat→Bool}(s:ae)(aO:Int)(l:List ah)(hF:rl s)(hl:l.length≤100000000)
  (hp:∀i k v n,At s i k v n→ ∀o:List ah,JJ fn [.agg (kV i k v n).enc,.agg (s.ev i k v n).enc] [] (nB (w i k v n)) []):
  JJ 90 [.ptr (.ext 0) 0,.fn fn [] []] [bd s aO l] (.dE []) [bd s aO (zI w aO 0 s.aa l)]:=by
 have fw:maxLen≤9223372036854775807:=by decide
 have j5:(100000:Nat)≤maxLen:=by decide
 refine XX.intro Tryz.func90 rfl rfl rfl rfl ?_;have f1:=hF.ep;obtain⟨R,hR⟩:∃R,zI w aO 0 s.aa l=R:=⟨_,rfl⟩
 rw[hR];refine⟨_,al _ _,?_⟩;refine⟨[0,1,16,17,18],[.ext 0],fun q S=>∃(i:Nat) (o:List ah),i≤s.aa.length∧q=s.aa.length-i∧o.length≤l.length+100000*i∧zI w aO i (s.aa.drop i) o=R∧
  S=St.mk' [(0,.ptr (.ext 0) 0),(1,.fn fn [] []),(16,.p (.sl 22 (s.aa.map aj.enc))),(17,nI s.aa.length),(18,nI i)] [(.ext 0,bd s aO o)],⟨_,0,l,by omega,rfl,by omega,hR,rfl⟩,?_⟩
 rintro q S ⟨i,o,hi,rfl,ho,aw,rfl⟩;refine ab (fun h=>?_) (fun h=>?_)
 ·have h:=of_decide_eq_true h;have aN:i<s.aa.length:=by omega
  have bW:=ao aj.enc s.aa i aN;have f2:=hF.cells i aN;rw[aF aN]at aw;have aw:zI w aO (i+1) (s.aa.drop (i+1)) (FK w aO i 0 (s.aa.getD i default).Cells o)=R:=aw;obtain⟨Y,hY⟩:∃Y,FK w aO i 0 (s.aa.getD i default).Cells o=Y:=⟨_,rfl⟩
  rw[hY]at aw;obtain⟨o0,ze⟩:∃o0,o0=o:=⟨_,rfl⟩
  refine⟨_,bW,?_⟩;refine⟨rfl,?_⟩;refine⟨_,al _ _,?_⟩;refine⟨[0,1,4,16,17,18,24,25,26],[.ext 0],fun q S=>∃(k:Nat) (o:List ah),k≤(s.aa.getD i default).Cells.length∧q=(s.aa.getD i default).Cells.length-k∧o.length≤o0.length+10000*k∧FK w aO i k ((s.aa.getD i default).Cells.drop k) o=Y∧
   S=St.mk' [(0,.ptr (.ext 0) 0),(1,.fn fn [] []),(4,nI i),(16,.p (.sl 22 (s.aa.map aj.enc))),(17,nI s.aa.length),(18,nI i),(24,.p (.sl 2 ((s.aa.getD i default).Cells.map aI.enc))),(25,nI (s.aa.getD i default).Cells.length),(26,nI k)] [(.ext 0,bd s aO o)],⟨_,0,o,by omega,rfl,by rw[ze];omega,hY,rfl⟩,?_⟩
  subst ze;rintro q S ⟨k,o,hk,rfl,zT,j6,rfl⟩;refine ab (fun h=>?_) (fun h=>?_)
  ·have h:=of_decide_eq_true h;have fl:k<(s.aa.getD i default).Cells.length:=by omega
   have fF:=ao aI.enc _ k fl;have f3:=hF.dI i k aN fl;unfold ae.kx at f3;rw[aF fl]at j6;obtain⟨c,hc⟩:∃c,c=(s.aa.getD i default).Cells.getD k default:=⟨_,rfl⟩
   rw[←hc]at fF f3 j6;have j6:FK w aO i (k+1) ((s.aa.getD i default).Cells.drop (k+1)) (wY w aO i k 0 c.ai o)=Y:=j6;obtain⟨Z,hZ⟩:∃Z,wY w aO i k 0 c.ai o=Z:=⟨_,rfl⟩
   rw[hZ]at j6;obtain⟨o1,Lc⟩:∃o1,o1=o:=⟨_,rfl⟩
   refine⟨_,fF,?_⟩;refine⟨rfl,?_⟩;refine⟨_,al _ _,?_⟩;refine⟨[0,1,4,6,16,17,18,24,25,26,32,33,34],[.ext 0],fun q S=>∃(v:Nat) (o:List ah),v≤c.ai.length∧q=c.ai.length-v∧o.length≤o1.length+1000*v∧wY w aO i k v (c.ai.drop v) o=Z∧
    S=St.mk' [(0,.ptr (.ext 0) 0),(1,.fn fn [] []),(4,nI i),(6,nI k),(16,.p (.sl 22 (s.aa.map aj.enc))),(17,nI s.aa.length),(18,nI i),(24,.p (.sl 2 ((s.aa.getD i default).Cells.map aI.enc))),(25,nI (s.aa.getD i default).Cells.length),(26,nI k),(32,.p (.sl 2 (c.ai.map ax.enc))),(33,nI c.ai.length),(34,nI v)] [(.ext 0,bd s aO o)],⟨_,0,o,by omega,rfl,by rw[Lc];omega,hZ,rfl⟩,?_⟩
   subst Lc;rintro q S ⟨v,o,hv,rfl,Yp,jZ,rfl⟩;refine US s aO hF i k v c o aN fl hc hv (by omega) hp (fun he v1=>?_) (fun S o2 Rq h6 h7 h8=>?_)
   ·rw[List.drop_eq_nil_of_le (by omega)]at jZ;have jZ:o=Z:=jZ;subst jZ;refine⟨_,wrap_i64 (by omega) (by omega),?_⟩;refine⟨(s.aa.getD i default).Cells.length-(k+1),?_,k+1,_,?_,rfl,?_,j6,rfl⟩
    ·omega
    ·omega
    ·omega
   ·refine⟨c.ai.length-(v+1),?_,v+1,o2,?_,rfl,?_,by rw[←h7];exact jZ,h8⟩
    ·omega
    ·omega
    ·refine Nat.le_trans h6 ?_;rw[Nat.mul_succ,←Nat.add_assoc];exact Nat.add_le_add_right Yp 1000
  ·have h:=of_decide_eq_false h;rw[List.drop_eq_nil_of_le (by omega)]at j6;have j6:o=Y:=j6;subst j6;refine⟨_,wrap_i64 (by omega) (by omega),?_⟩;refine⟨s.aa.length-(i+1),?_,i+1,_,?_,rfl,?_,aw,rfl⟩
   ·omega
   ·omega
   ·omega
 ·have h:=of_decide_eq_false h;rw[List.drop_eq_nil_of_le (by omega)]at aw;have aw:o=R:=aw;subst aw;exact⟨rfl,rfl⟩
set_option maxHeartbeats 4000000 in
theorem UT{fn:FuncId}{w:Nat→Nat→Nat→Nat→Bool}{Q:Ex→St→Prop}(s:ae)(aO:Int)(hF:rl s)(i k v:Nat)(c:aI)(o:List ah)(hi:i<s.aa.length)(hk:k<(s.aa.getD i default).Cells.length)(hc:c=(s.aa.getD i default).Cells.getD k default)(hv:v≤c.ai.length)(iz:o.length≤200000000)
  (hp:∀i k v n,At s i k v n→ ∀o:List ah,JJ fn [.agg (kV i k v n).enc,.agg (s.ev i k v n).enc,.ptr (.ext 0) 0] [.mix 138 [.ptr (.ext 1) 0],bd s aO o] (nB (w i k v n)) [.mix 138 [.ptr (.ext 1) 0],bd s aO o])
  (hX:v=c.ai.length→ ∀v1:AV,Q (.exit 4) ((St.mk' [(0,.ptr (.ext 0) 0),(1,.fn fn [] [.ptr (.ext 1) 0]),(4,nI i),(6,nI k),(16,.p (.sl 22 (s.aa.map aj.enc))),(17,nI s.aa.length),(18,nI i),(24,.p (.sl 2 ((s.aa.getD i default).Cells.map aI.enc))),(25,nI (s.aa.getD i default).Cells.length),(26,nI k),(32,.p (.sl 2 (c.ai.map ax.enc))),(33,nI c.ai.length),(34,nI v)] [(.ext 0,bd s aO o),(.ext 1,.mix 138 [.ptr (.ext 0) 0])]).put 35 v1))
  (hN:∀S o2,v<c.ai.length→o2.length≤o.length+1000→wY w aO i k v (c.ai.drop v) o=wY w aO i k (v+1) (c.ai.drop (v+1)) o2→
   S.bM [0,1,4,6,16,17,18,24,25,26,32,33,34] [.ext 0,.ext 1]=St.mk' [(0,.ptr (.ext 0) 0),(1,.fn fn [] [.ptr (.ext 1) 0]),(4,nI i),(6,nI k),(16,.p (.sl 22 (s.aa.map aj.enc))),(17,nI s.aa.length),(18,nI i),(24,.p (.sl 2 ((s.aa.getD i default).Cells.map aI.enc))),(25,nI (s.aa.getD i default).Cells.length),(26,nI k),(32,.p (.sl 2 (c.ai.map ax.enc))),(33,nI c.ai.length),(34,nI ((v+1:Nat):Int))] [(.ext 0,bd s aO o2),(.ext 1,.mix 138 [.ptr (.ext 0) 0])]→Q .normal S):
  nA te JJ YY (cX Tryz.f90 [1,0,0,1,1,0,0,1,1,0,0,1,1,0,0,1,1,0,0]) (St.mk' [(0,.ptr (.ext 0) 0),(1,.fn fn [] [.ptr (.ext 1) 0]),(4,nI i),(6,nI k),(16,.p (.sl 22 (s.aa.map aj.enc))),(17,nI s.aa.length),(18,nI i),(24,.p (.sl 2 ((s.aa.getD i default).Cells.map aI.enc))),(25,nI (s.aa.getD i default).Cells.length),(26,nI k),(32,.p (.sl 2 (c.ai.map ax.enc))),(33,nI c.ai.length),(34,nI v)] [(.ext 0,bd s aO o),(.ext 1,.mix 138 [.ptr (.ext 0) 0])]) Q:=by
 have fw:maxLen≤9223372036854775807:=by decide
 have j5:(100000:Nat)≤maxLen:=by decide
 have f3:=hF.dI i k hi hk;have f4:=hF.events i k v hi hk;unfold ae.kx at f3 f4;rw[←hc]at f3 f4;refine ab (fun h=>?_) (fun h=>?_)
 ·have h:=of_decide_eq_true h;have aN:v<c.ai.length:=by omega
  have bW:=ao ax.enc c.ai v aN;have rq:s.vo i k v=c.ai.getD v default:=by unfold ae.vo;rw[hc]
  have f4:=f4 aN;have hd:=aF aN;rw[rq]at f4;obtain⟨x,hx⟩:∃x,x=c.ai.getD v default:=⟨_,rfl⟩
  rw[←hx]at bW f4 rq hd;have jZ:wY w aO i k v (c.ai.drop v) o=wY w aO i k (v+1) (c.ai.drop (v+1)) (FJ w aO i k v 0 x.ak o):=by rw[hd];rfl
  obtain⟨R,hR⟩:∃R,FJ w aO i k v 0 x.ak o=R:=⟨_,rfl⟩
  rw[hR]at jZ;obtain⟨o0,ze⟩:∃o0,o0=o:=⟨_,rfl⟩
  refine⟨_,bW,?_⟩;refine⟨rfl,?_⟩;refine⟨_,al _ _,?_⟩;refine⟨[0,1,4,6,8,16,17,18,24,25,26,32,33,34,40,41,42],[.ext 0,.ext 1],fun q S=>∃(n:Nat) (o:List ah),n≤x.ak.length∧q=x.ak.length-n∧o.length≤o0.length+n∧FJ w aO i k v n (x.ak.drop n) o=R∧
   S=St.mk' [(0,.ptr (.ext 0) 0),(1,.fn fn [] [.ptr (.ext 1) 0]),(4,nI i),(6,nI k),(8,nI v),(16,.p (.sl 22 (s.aa.map aj.enc))),(17,nI s.aa.length),(18,nI i),(24,.p (.sl 2 ((s.aa.getD i default).Cells.map aI.enc))),(25,nI (s.aa.getD i default).Cells.length),(26,nI k),(32,.p (.sl 2 (c.ai.map ax.enc))),(33,nI c.ai.length),(34,nI v),(40,.p (.sl 13 (x.ak.map aD.enc))),(41,nI x.ak.length),(42,nI n)] [(.ext 0,bd s aO o),(.ext 1,.mix 138 [.ptr (.ext 0) 0])],⟨_,0,o,by omega,rfl,by rw[ze];omega,hR,rfl⟩,?_⟩
  subst ze;rintro q S ⟨n,o,hn,rfl,zT,aw,rfl⟩;refine ab (fun h=>?_) (fun h=>?_)
  ·have h:=of_decide_eq_true h;have fl:n<x.ak.length:=by omega
   have wD:=ao aD.enc x.ak n fl;rw[aF fl]at aw;have hA:At s i k v n:=⟨hi,hk,by unfold ae.kx;rw[←hc];exact aN,by rw[rq];exact fl⟩;have Ge:s.ev i k v n=x.ak.getD n default:=by unfold ae.ev;rw[rq]
   have dP:=hp i k v n hA o;rw[Ge]at dP;obtain⟨y,hy⟩:∃y,y=x.ak.getD n default:=⟨_,rfl⟩
   rw[←hy]at wD aw dP;have aw:FJ w aO i k v (n+1) (x.ak.drop (n+1)) (gE (w i k v n) aO y.ID o)=R:=aw;have Ei:=cS (w i k v n) aO y.ID o;refine⟨_,wD,?_⟩;refine⟨rfl,?_⟩;refine⟨[.no false,.no false,.no false,.no false,.no false,.no false,.no false,.no false,.rc [.own 11],.no false,.ns (.own 11)],rfl,?_⟩;refine⟨_,_,dP,rfl,⟨rfl,trivial⟩,?_⟩;refine⟨rfl,?_⟩;refine⟨_,_,ix s aO o (w i k v n) y.ID (by omega),rfl,?_⟩;refine⟨_,wrap_i64 (by omega) (by omega),?_⟩;exact⟨_,by omega,n+1,_,by omega,rfl,by omega,aw,rfl⟩
  ·have h:=of_decide_eq_false h;rw[List.drop_eq_nil_of_le (by omega)]at aw;have aw:o=R:=aw;subst aw;refine⟨_,wrap_i64 (by omega) (by omega),?_⟩;exact hN _ _ aN (by omega) jZ rfl
 ·have h:=of_decide_eq_false h;exact hX (by omega) _
set_option maxHeartbeats 4000000 in
theorem N9{fn:FuncId}{w:Nat→Nat→Nat→Nat→Bool}(s:ae)(aO:Int)(l:List ah)(hF:rl s)(hl:l.length≤100000000)
  (hp:∀i k v n,At s i k v n→ ∀o:List ah,JJ fn [.agg (kV i k v n).enc,.agg (s.ev i k v n).enc,.ptr (.ext 0) 0] [.mix 138 [.ptr (.ext 1) 0],bd s aO o] (nB (w i k v n)) [.mix 138 [.ptr (.ext 1) 0],bd s aO o]):
  JJ 90 [.ptr (.ext 0) 0,.fn fn [] [.ptr (.ext 1) 0]] [bd s aO l,.mix 138 [.ptr (.ext 0) 0]] (.dE []) [bd s aO (zI w aO 0 s.aa l),.mix 138 [.ptr (.ext 0) 0]]:=by
 have fw:maxLen≤9223372036854775807:=by decide
 have j5:(100000:Nat)≤maxLen:=by decide
 refine XX.intro Tryz.func90 rfl rfl rfl rfl ?_;have f1:=hF.ep;obtain⟨R,hR⟩:∃R,zI w aO 0 s.aa l=R:=⟨_,rfl⟩
 rw[hR];refine⟨_,al _ _,?_⟩;refine⟨[0,1,16,17,18],[.ext 0,.ext 1],fun q S=>∃(i:Nat) (o:List ah),i≤s.aa.length∧q=s.aa.length-i∧o.length≤l.length+100000*i∧zI w aO i (s.aa.drop i) o=R∧
  S=St.mk' [(0,.ptr (.ext 0) 0),(1,.fn fn [] [.ptr (.ext 1) 0]),(16,.p (.sl 22 (s.aa.map aj.enc))),(17,nI s.aa.length),(18,nI i)] [(.ext 0,bd s aO o),(.ext 1,.mix 138 [.ptr (.ext 0) 0])],⟨_,0,l,by omega,rfl,by omega,hR,rfl⟩,?_⟩
 rintro q S ⟨i,o,hi,rfl,ho,aw,rfl⟩;refine ab (fun h=>?_) (fun h=>?_)
 ·have h:=of_decide_eq_true h;have aN:i<s.aa.length:=by omega
  have bW:=ao aj.enc s.aa i aN;have f2:=hF.cells i aN;rw[aF aN]at aw;have aw:zI w aO (i+1) (s.aa.drop (i+1)) (FK w aO i 0 (s.aa.getD i default).Cells o)=R:=aw;obtain⟨Y,hY⟩:∃Y,FK w aO i 0 (s.aa.getD i default).Cells o=Y:=⟨_,rfl⟩
  rw[hY]at aw;obtain⟨o0,ze⟩:∃o0,o0=o:=⟨_,rfl⟩
  refine⟨_,bW,?_⟩;refine⟨rfl,?_⟩;refine⟨_,al _ _,?_⟩;refine⟨[0,1,4,16,17,18,24,25,26],[.ext 0,.ext 1],fun q S=>∃(k:Nat) (o:List ah),k≤(s.aa.getD i default).Cells.length∧q=(s.aa.getD i default).Cells.length-k∧o.length≤o0.length+10000*k∧FK w aO i k ((s.aa.getD i default).Cells.drop k) o=Y∧
   S=St.mk' [(0,.ptr (.ext 0) 0),(1,.fn fn [] [.ptr (.ext 1) 0]),(4,nI i),(16,.p (.sl 22 (s.aa.map aj.enc))),(17,nI s.aa.length),(18,nI i),(24,.p (.sl 2 ((s.aa.getD i default).Cells.map aI.enc))),(25,nI (s.aa.getD i default).Cells.length),(26,nI k)] [(.ext 0,bd s aO o),(.ext 1,.mix 138 [.ptr (.ext 0) 0])],⟨_,0,o,by omega,rfl,by rw[ze];omega,hY,rfl⟩,?_⟩
  subst ze;rintro q S ⟨k,o,hk,rfl,zT,j6,rfl⟩;refine ab (fun h=>?_) (fun h=>?_)
  ·have h:=of_decide_eq_true h;have fl:k<(s.aa.getD i default).Cells.length:=by omega
   have fF:=ao aI.enc _ k fl;have f3:=hF.dI i k aN fl;unfold ae.kx at f3;rw[aF fl]at j6;obtain⟨c,hc⟩:∃c,c=(s.aa.getD i default).Cells.getD k default:=⟨_,rfl⟩
   rw[←hc]at fF f3 j6;have j6:FK w aO i (k+1) ((s.aa.getD i default).Cells.drop (k+1)) (wY w aO i k 0 c.ai o)=Y:=j6;obtain⟨Z,hZ⟩:∃Z,wY w aO i k 0 c.ai o=Z:=⟨_,rfl⟩
   rw[hZ]at j6;obtain⟨o1,Lc⟩:∃o1,o1=o:=⟨_,rfl⟩
   refine⟨_,fF,?_⟩;refine⟨rfl,?_⟩;refine⟨_,al _ _,?_⟩;refine⟨[0,1,4,6,16,17,18,24,25,26,32,33,34],[.ext 0,.ext 1],fun q S=>∃(v:Nat) (o:List ah),v≤c.ai.length∧q=c.ai.length-v∧o.length≤o1.length+1000*v∧wY w aO i k v (c.ai.drop v) o=Z∧
    S=St.mk' [(0,.ptr (.ext 0) 0),(1,.fn fn [] [.ptr (.ext 1) 0]),(4,nI i),(6,nI k),(16,.p (.sl 22 (s.aa.map aj.enc))),(17,nI s.aa.length),(18,nI i),(24,.p (.sl 2 ((s.aa.getD i default).Cells.map aI.enc))),(25,nI (s.aa.getD i default).Cells.length),(26,nI k),(32,.p (.sl 2 (c.ai.map ax.enc))),(33,nI c.ai.length),(34,nI v)] [(.ext 0,bd s aO o),(.ext 1,.mix 138 [.ptr (.ext 0) 0])],⟨_,0,o,by omega,rfl,by rw[Lc];omega,hZ,rfl⟩,?_⟩
   subst Lc;rintro q S ⟨v,o,hv,rfl,Yp,jZ,rfl⟩;refine UT s aO hF i k v c o aN fl hc hv (by omega) hp (fun he v1=>?_) (fun S o2 Rq h6 h7 h8=>?_)
   ·rw[List.drop_eq_nil_of_le (by omega)]at jZ;have jZ:o=Z:=jZ;subst jZ;refine⟨_,wrap_i64 (by omega) (by omega),?_⟩;refine⟨(s.aa.getD i default).Cells.length-(k+1),?_,k+1,_,?_,rfl,?_,j6,rfl⟩
    ·omega
    ·omega
    ·omega
   ·refine⟨c.ai.length-(v+1),?_,v+1,o2,?_,rfl,?_,by rw[←h7];exact jZ,h8⟩
    ·omega
    ·omega
    ·refine Nat.le_trans h6 ?_;rw[Nat.mul_succ,←Nat.add_assoc];exact Nat.add_le_add_right Yp 1000
  ·have h:=of_decide_eq_false h;rw[List.drop_eq_nil_of_le (by omega)]at j6;have j6:o=Y:=j6;subst j6;refine⟨_,wrap_i64 (by omega) (by omega),?_⟩;refine⟨s.aa.length-(i+1),?_,i+1,_,?_,rfl,?_,aw,rfl⟩
   ·omega
   ·omega
   ·omega
 ·have h:=of_decide_eq_false h;rw[List.drop_eq_nil_of_le (by omega)]at aw;have aw:o=R:=aw;subst aw;exact⟨rfl,rfl⟩
set_option maxHeartbeats 4000000 in
theorem UU{mp:List (List PV×List PV)}{fn:FuncId}{w:Nat→Nat→Nat→Nat→Bool}{Q:Ex→St→Prop}(s:ae)(aO:Int)(hF:rl s)(i k v:Nat)(c:aI)(o:List ah)(hi:i<s.aa.length)(hk:k<(s.aa.getD i default).Cells.length)(hc:c=(s.aa.getD i default).Cells.getD k default)(hv:v≤c.ai.length)(iz:o.length≤200000000)
  (hp:∀i k v n,At s i k v n→ ∀o:List ah,JJ fn [.agg (kV i k v n).enc,.agg (s.ev i k v n).enc,.ptr (.ext 0) 0] [.mix 190 [.dF (.ext 1)],.mp false mp] (nB (w i k v n)) [.mix 190 [.dF (.ext 1)],.mp false mp])
  (hX:v=c.ai.length→ ∀v1:AV,Q (.exit 4) ((St.mk' [(0,.ptr (.ext 0) 0),(1,.fn fn [] [.ptr (.ext 1) 0]),(4,nI i),(6,nI k),(16,.p (.sl 22 (s.aa.map aj.enc))),(17,nI s.aa.length),(18,nI i),(24,.p (.sl 2 ((s.aa.getD i default).Cells.map aI.enc))),(25,nI (s.aa.getD i default).Cells.length),(26,nI k),(32,.p (.sl 2 (c.ai.map ax.enc))),(33,nI c.ai.length),(34,nI v)] [(.ext 0,bd s aO o),(.ext 1,.mix 190 [.dF (.ext 2)]),(.ext 2,.mp false mp)]).put 35 v1))
  (hN:∀S o2,v<c.ai.length→o2.length≤o.length+1000→wY w aO i k v (c.ai.drop v) o=wY w aO i k (v+1) (c.ai.drop (v+1)) o2→
   S.bM [0,1,4,6,16,17,18,24,25,26,32,33,34] [.ext 0,.ext 1,.ext 2]=St.mk' [(0,.ptr (.ext 0) 0),(1,.fn fn [] [.ptr (.ext 1) 0]),(4,nI i),(6,nI k),(16,.p (.sl 22 (s.aa.map aj.enc))),(17,nI s.aa.length),(18,nI i),(24,.p (.sl 2 ((s.aa.getD i default).Cells.map aI.enc))),(25,nI (s.aa.getD i default).Cells.length),(26,nI k),(32,.p (.sl 2 (c.ai.map ax.enc))),(33,nI c.ai.length),(34,nI ((v+1:Nat):Int))] [(.ext 0,bd s aO o2),(.ext 1,.mix 190 [.dF (.ext 2)]),(.ext 2,.mp false mp)]→Q .normal S):
  nA te JJ YY (cX Tryz.f90 [1,0,0,1,1,0,0,1,1,0,0,1,1,0,0,1,1,0,0]) (St.mk' [(0,.ptr (.ext 0) 0),(1,.fn fn [] [.ptr (.ext 1) 0]),(4,nI i),(6,nI k),(16,.p (.sl 22 (s.aa.map aj.enc))),(17,nI s.aa.length),(18,nI i),(24,.p (.sl 2 ((s.aa.getD i default).Cells.map aI.enc))),(25,nI (s.aa.getD i default).Cells.length),(26,nI k),(32,.p (.sl 2 (c.ai.map ax.enc))),(33,nI c.ai.length),(34,nI v)] [(.ext 0,bd s aO o),(.ext 1,.mix 190 [.dF (.ext 2)]),(.ext 2,.mp false mp)]) Q:=by
 have fw:maxLen≤9223372036854775807:=by decide
 have j5:(100000:Nat)≤maxLen:=by decide
 have f3:=hF.dI i k hi hk;have f4:=hF.events i k v hi hk;unfold ae.kx at f3 f4;rw[←hc]at f3 f4;refine ab (fun h=>?_) (fun h=>?_)
 ·have h:=of_decide_eq_true h;have aN:v<c.ai.length:=by omega
  have bW:=ao ax.enc c.ai v aN;have rq:s.vo i k v=c.ai.getD v default:=by unfold ae.vo;rw[hc]
  have f4:=f4 aN;have hd:=aF aN;rw[rq]at f4;obtain⟨x,hx⟩:∃x,x=c.ai.getD v default:=⟨_,rfl⟩
  rw[←hx]at bW f4 rq hd;have jZ:wY w aO i k v (c.ai.drop v) o=wY w aO i k (v+1) (c.ai.drop (v+1)) (FJ w aO i k v 0 x.ak o):=by rw[hd];rfl
  obtain⟨R,hR⟩:∃R,FJ w aO i k v 0 x.ak o=R:=⟨_,rfl⟩
  rw[hR]at jZ;obtain⟨o0,ze⟩:∃o0,o0=o:=⟨_,rfl⟩
  refine⟨_,bW,?_⟩;refine⟨rfl,?_⟩;refine⟨_,al _ _,?_⟩;refine⟨[0,1,4,6,8,16,17,18,24,25,26,32,33,34,40,41,42],[.ext 0,.ext 1,.ext 2],fun q S=>∃(n:Nat) (o:List ah),n≤x.ak.length∧q=x.ak.length-n∧o.length≤o0.length+n∧FJ w aO i k v n (x.ak.drop n) o=R∧
   S=St.mk' [(0,.ptr (.ext 0) 0),(1,.fn fn [] [.ptr (.ext 1) 0]),(4,nI i),(6,nI k),(8,nI v),(16,.p (.sl 22 (s.aa.map aj.enc))),(17,nI s.aa.length),(18,nI i),(24,.p (.sl 2 ((s.aa.getD i default).Cells.map aI.enc))),(25,nI (s.aa.getD i default).Cells.length),(26,nI k),(32,.p (.sl 2 (c.ai.map ax.enc))),(33,nI c.ai.length),(34,nI v),(40,.p (.sl 13 (x.ak.map aD.enc))),(41,nI x.ak.length),(42,nI n)] [(.ext 0,bd s aO o),(.ext 1,.mix 190 [.dF (.ext 2)]),(.ext 2,.mp false mp)],⟨_,0,o,by omega,rfl,by rw[ze];omega,hR,rfl⟩,?_⟩
  subst ze;rintro q S ⟨n,o,hn,rfl,zT,aw,rfl⟩;refine ab (fun h=>?_) (fun h=>?_)
  ·have h:=of_decide_eq_true h;have fl:n<x.ak.length:=by omega
   have wD:=ao aD.enc x.ak n fl;rw[aF fl]at aw;have hA:At s i k v n:=⟨hi,hk,by unfold ae.kx;rw[←hc];exact aN,by rw[rq];exact fl⟩;have Ge:s.ev i k v n=x.ak.getD n default:=by unfold ae.ev;rw[rq]
   have dP:=hp i k v n hA o;rw[Ge]at dP;obtain⟨y,hy⟩:∃y,y=x.ak.getD n default:=⟨_,rfl⟩
   rw[←hy]at wD aw dP;have aw:FJ w aO i k v (n+1) (x.ak.drop (n+1)) (gE (w i k v n) aO y.ID o)=R:=aw;have Ei:=cS (w i k v n) aO y.ID o;refine⟨_,wD,?_⟩;refine⟨rfl,?_⟩;refine⟨[.no false,.no false,.no false,.no false,.no false,.no false,.no false,.no false,.rc [.own 11],.no false,.ns (.own 11)],rfl,?_⟩;refine⟨_,_,dP,rfl,⟨rfl,trivial⟩,?_⟩;refine⟨rfl,?_⟩;refine⟨_,_,ix s aO o (w i k v n) y.ID (by omega),rfl,?_⟩;refine⟨_,wrap_i64 (by omega) (by omega),?_⟩;exact⟨_,by omega,n+1,_,by omega,rfl,by omega,aw,rfl⟩
  ·have h:=of_decide_eq_false h;rw[List.drop_eq_nil_of_le (by omega)]at aw;have aw:o=R:=aw;subst aw;refine⟨_,wrap_i64 (by omega) (by omega),?_⟩;exact hN _ _ aN (by omega) jZ rfl
 ·have h:=of_decide_eq_false h;exact hX (by omega) _
set_option maxHeartbeats 4000000 in
theorem Yq{mp:List (List PV×List PV)}{fn:FuncId}{w:Nat→Nat→Nat→Nat→Bool}(s:ae)(aO:Int)(l:List ah)(hF:rl s)(hl:l.length≤100000000)
  (hp:∀i k v n,At s i k v n→ ∀o:List ah,JJ fn [.agg (kV i k v n).enc,.agg (s.ev i k v n).enc,.ptr (.ext 0) 0] [.mix 190 [.dF (.ext 1)],.mp false mp] (nB (w i k v n)) [.mix 190 [.dF (.ext 1)],.mp false mp]):
  JJ 90 [.ptr (.ext 0) 0,.fn fn [] [.ptr (.ext 1) 0]] [bd s aO l,.mix 190 [.dF (.ext 2)],.mp false mp] (.dE []) [bd s aO (zI w aO 0 s.aa l),.mix 190 [.dF (.ext 2)],.mp false mp]:=by
 have fw:maxLen≤9223372036854775807:=by decide
 have j5:(100000:Nat)≤maxLen:=by decide
 refine XX.intro Tryz.func90 rfl rfl rfl rfl ?_;have f1:=hF.ep;obtain⟨R,hR⟩:∃R,zI w aO 0 s.aa l=R:=⟨_,rfl⟩
 rw[hR];refine⟨_,al _ _,?_⟩;refine⟨[0,1,16,17,18],[.ext 0,.ext 1,.ext 2],fun q S=>∃(i:Nat) (o:List ah),i≤s.aa.length∧q=s.aa.length-i∧o.length≤l.length+100000*i∧zI w aO i (s.aa.drop i) o=R∧
  S=St.mk' [(0,.ptr (.ext 0) 0),(1,.fn fn [] [.ptr (.ext 1) 0]),(16,.p (.sl 22 (s.aa.map aj.enc))),(17,nI s.aa.length),(18,nI i)] [(.ext 0,bd s aO o),(.ext 1,.mix 190 [.dF (.ext 2)]),(.ext 2,.mp false mp)],⟨_,0,l,by omega,rfl,by omega,hR,rfl⟩,?_⟩
 rintro q S ⟨i,o,hi,rfl,ho,aw,rfl⟩;refine ab (fun h=>?_) (fun h=>?_)
 ·have h:=of_decide_eq_true h;have aN:i<s.aa.length:=by omega
  have bW:=ao aj.enc s.aa i aN;have f2:=hF.cells i aN;rw[aF aN]at aw;have aw:zI w aO (i+1) (s.aa.drop (i+1)) (FK w aO i 0 (s.aa.getD i default).Cells o)=R:=aw;obtain⟨Y,hY⟩:∃Y,FK w aO i 0 (s.aa.getD i default).Cells o=Y:=⟨_,rfl⟩
  rw[hY]at aw;obtain⟨o0,ze⟩:∃o0,o0=o:=⟨_,rfl⟩
  refine⟨_,bW,?_⟩;refine⟨rfl,?_⟩;refine⟨_,al _ _,?_⟩;refine⟨[0,1,4,16,17,18,24,25,26],[.ext 0,.ext 1,.ext 2],fun q S=>∃(k:Nat) (o:List ah),k≤(s.aa.getD i default).Cells.length∧q=(s.aa.getD i default).Cells.length-k∧o.length≤o0.length+10000*k∧FK w aO i k ((s.aa.getD i default).Cells.drop k) o=Y∧
   S=St.mk' [(0,.ptr (.ext 0) 0),(1,.fn fn [] [.ptr (.ext 1) 0]),(4,nI i),(16,.p (.sl 22 (s.aa.map aj.enc))),(17,nI s.aa.length),(18,nI i),(24,.p (.sl 2 ((s.aa.getD i default).Cells.map aI.enc))),(25,nI (s.aa.getD i default).Cells.length),(26,nI k)] [(.ext 0,bd s aO o),(.ext 1,.mix 190 [.dF (.ext 2)]),(.ext 2,.mp false mp)],⟨_,0,o,by omega,rfl,by rw[ze];omega,hY,rfl⟩,?_⟩
  subst ze;rintro q S ⟨k,o,hk,rfl,zT,j6,rfl⟩;refine ab (fun h=>?_) (fun h=>?_)
  ·have h:=of_decide_eq_true h;have fl:k<(s.aa.getD i default).Cells.length:=by omega
   have fF:=ao aI.enc _ k fl;have f3:=hF.dI i k aN fl;unfold ae.kx at f3;rw[aF fl]at j6;obtain⟨c,hc⟩:∃c,c=(s.aa.getD i default).Cells.getD k default:=⟨_,rfl⟩
   rw[←hc]at fF f3 j6;have j6:FK w aO i (k+1) ((s.aa.getD i default).Cells.drop (k+1)) (wY w aO i k 0 c.ai o)=Y:=j6;obtain⟨Z,hZ⟩:∃Z,wY w aO i k 0 c.ai o=Z:=⟨_,rfl⟩
   rw[hZ]at j6;obtain⟨o1,Lc⟩:∃o1,o1=o:=⟨_,rfl⟩
   refine⟨_,fF,?_⟩;refine⟨rfl,?_⟩;refine⟨_,al _ _,?_⟩;refine⟨[0,1,4,6,16,17,18,24,25,26,32,33,34],[.ext 0,.ext 1,.ext 2],fun q S=>∃(v:Nat) (o:List ah),v≤c.ai.length∧q=c.ai.length-v∧o.length≤o1.length+1000*v∧wY w aO i k v (c.ai.drop v) o=Z∧
    S=St.mk' [(0,.ptr (.ext 0) 0),(1,.fn fn [] [.ptr (.ext 1) 0]),(4,nI i),(6,nI k),(16,.p (.sl 22 (s.aa.map aj.enc))),(17,nI s.aa.length),(18,nI i),(24,.p (.sl 2 ((s.aa.getD i default).Cells.map aI.enc))),(25,nI (s.aa.getD i default).Cells.length),(26,nI k),(32,.p (.sl 2 (c.ai.map ax.enc))),(33,nI c.ai.length),(34,nI v)] [(.ext 0,bd s aO o),(.ext 1,.mix 190 [.dF (.ext 2)]),(.ext 2,.mp false mp)],⟨_,0,o,by omega,rfl,by rw[Lc];omega,hZ,rfl⟩,?_⟩
   subst Lc;rintro q S ⟨v,o,hv,rfl,Yp,jZ,rfl⟩;refine UU s aO hF i k v c o aN fl hc hv (by omega) hp (fun he v1=>?_) (fun S o2 Rq h6 h7 h8=>?_)
   ·rw[List.drop_eq_nil_of_le (by omega)]at jZ;have jZ:o=Z:=jZ;subst jZ;refine⟨_,wrap_i64 (by omega) (by omega),?_⟩;refine⟨(s.aa.getD i default).Cells.length-(k+1),?_,k+1,_,?_,rfl,?_,j6,rfl⟩
    ·omega
    ·omega
    ·omega
   ·refine⟨c.ai.length-(v+1),?_,v+1,o2,?_,rfl,?_,by rw[←h7];exact jZ,h8⟩
    ·omega
    ·omega
    ·refine Nat.le_trans h6 ?_;rw[Nat.mul_succ,←Nat.add_assoc];exact Nat.add_le_add_right Yp 1000
  ·have h:=of_decide_eq_false h;rw[List.drop_eq_nil_of_le (by omega)]at j6;have j6:o=Y:=j6;subst j6;refine⟨_,wrap_i64 (by omega) (by omega),?_⟩;refine⟨s.aa.length-(i+1),?_,i+1,_,?_,rfl,?_,aw,rfl⟩
   ·omega
   ·omega
   ·omega
 ·have h:=of_decide_eq_false h;rw[List.drop_eq_nil_of_le (by omega)]at aw;have aw:o=R:=aw;subst aw;exact⟨rfl,rfl⟩
open Go.Proofs
def UW(w:Bool):List ax→Bool
 | []=>w
 | v::r=>UW (bif w then true else(bif((v.ak.length:Int)==0)then decide ((v.eH.length:Int)>0)else false)) r
def IN(w:Bool)(c:aI):Bool:=
 bif(bif(bif w then true else((c.ai.length:Int)==0))then true else(((c.ai.getD 0 default).ak.length:Int)==0))then true else(((c.ai.getD (c.ai.length-1) default).ak.length:Int)==0)
def Wr(w:Bool):List aI→Bool
 | []=>w
 | c::r=>Wr (UW (IN w c) c.ai) r
def Ho(n:Int)(m:aj):Bool:=Wr ((m.Cells.length:Int)!=n) m.Cells
set_option maxHeartbeats 2000000 in
theorem UX(i:Int)(n:Int)(m:aj)(hw:m.wf):JJ 84 [nI i,.agg m.enc,.ptr (.ext 0) 0] [.pure 3 [.int .i64 n]] (nB (Ho n m)) [.pure 3 [.int .i64 n]]:=by
 have fw:maxLen≤9223372036854775807:=by decide
 have dP:=hw.Cells.1;refine JJ.intro Tryz.func84 rfl rfl rfl rfl ?_;refine⟨_,al _ _,?_⟩;refine⟨_,al _ _,?_⟩;obtain⟨R,hR⟩:∃R,Ho n m=R:=⟨_,rfl⟩
 rw[hR];refine⟨[6,18,19,20],[.ext 0],fun q S=>∃(k:Nat) (w:Bool),k≤m.Cells.length∧q=m.Cells.length-k∧Wr w (m.Cells.drop k)=R∧
  S=St.mk' [(6,nB w),(18,.p (.sl 2 (m.Cells.map aI.enc))),(19,nI m.Cells.length),(20,nI k)] [(.ext 0,.pure 3 [.int .i64 n])],⟨_,0,_,by omega,rfl,hR,rfl⟩,?_⟩
 rintro q S ⟨k,w,hk,rfl,aw,rfl⟩;refine ab (fun h=>?_) (fun h=>?_)
 ·have h:=of_decide_eq_true h;have aN:k<m.Cells.length:=by omega
  have bW:=ao aI.enc m.Cells k aN;have pk:=hw.Cells.2 _ (av aN);rw[aF aN]at aw;obtain⟨c,hc⟩:∃c,c=m.Cells.getD k default:=⟨_,rfl⟩
  rw[←hc]at bW pk aw;have GR:=pk.ai.1;have aw:Wr (UW (IN w c) c.ai) (m.Cells.drop (k+1))=R:=aw;obtain⟨Z,hZ⟩:∃Z,UW (IN w c) c.ai=Z:=⟨_,rfl⟩
  rw[hZ]at aw;refine⟨_,bW,?_⟩;refine⟨rfl,?_⟩;refine⟨_,fun _=>al _ _,?_⟩;have g1:∀h:(bif w then true else((c.ai.length:Int)==0))=false,0<c.ai.length:=fun h=>by
   rw[aX,Bool.or_eq_false_iff]at h;have:=ne_of_beq_false h.2;omega
  refine⟨_,fun h=>ao ax.enc c.ai 0 (g1 h),?_⟩;refine⟨_,fun h=>al _ _,?_⟩;have g2:∀h:(bif(bif w then true else((c.ai.length:Int)==0))then true else(((c.ai.getD 0 default).ak.length:Int)==0))=false,0<c.ai.length:=fun h=>by
   rw[aX,Bool.or_eq_false_iff]at h;exact g1 h.1
  refine⟨_,fun h=>al _ _,?_⟩;refine⟨((c.ai.length-1:Nat):Int),fun h=>by have:=g2 h;rw[wrap_i64 (by omega) (by omega)];omega,?_⟩;refine⟨_,fun h=>ao ax.enc c.ai (c.ai.length-1) (by have:=g2 h;omega),?_⟩;refine⟨_,fun h=>al _ _,?_⟩;refine⟨_,al _ _,?_⟩;refine⟨[6,18,19,20,51,52,53],[.ext 0],fun q S=>∃(j:Nat) (w:Bool),j≤c.ai.length∧q=c.ai.length-j∧UW w (c.ai.drop j)=Z∧
   S=St.mk' [(6,nB w),(18,.p (.sl 2 (m.Cells.map aI.enc))),(19,nI m.Cells.length),(20,nI k),(51,.p (.sl 2 (c.ai.map ax.enc))),(52,nI c.ai.length),(53,nI j)] [(.ext 0,.pure 3 [.int .i64 n])],⟨_,0,_,by omega,rfl,hZ,rfl⟩,?_⟩
  rintro q S ⟨j,w,hj,rfl,fh,rfl⟩;refine ab (fun h=>?_) (fun h=>?_)
  ·have h:=of_decide_eq_true h;have nr:j<c.ai.length:=by omega
   have gL:=ao ax.enc c.ai j nr;rw[aF nr]at fh;obtain⟨v,hv⟩:∃v,v=c.ai.getD j default:=⟨_,rfl⟩
   rw[←hv]at gL fh;have fh:UW (bif w then true else(bif((v.ak.length:Int)==0)then decide ((v.eH.length:Int)>0)else false)) (c.ai.drop (j+1))=Z:=fh;refine⟨_,gL,?_⟩;refine⟨rfl,?_⟩;refine⟨_,fun _=>al _ _,?_⟩;refine⟨_,fun _ _=>al _ _,?_⟩;refine⟨_,wrap_i64 (by omega) (by omega),?_⟩;exact⟨_,by omega,j+1,_,by omega,rfl,fh,rfl⟩
  ·have h:=of_decide_eq_false h;rw[List.drop_eq_nil_of_le (by omega)]at fh;have fh:w=Z:=fh;subst fh;refine⟨_,wrap_i64 (by omega) (by omega),?_⟩;exact⟨m.Cells.length-(k+1),by omega,k+1,_,by omega,rfl,aw,rfl⟩
 ·have h:=of_decide_eq_false h;rw[List.drop_eq_nil_of_le (by omega)]at aw;have aw:w=R:=aw;subst aw;exact⟨rfl,rfl⟩
abbrev v3(s:ae)(r:Int)(l:List ah):List ah:=gS (fun _ m=>Ho s.bG m) r 0 s.aa l
theorem UY(s:ae)(r:Int)(l:List ah)(hw:s.wf)(hp:s.ay.length≤1000)(hm:s.aa.length≤1000000)(hl:l.length≤100000000):
  JJ 47 [.ptr (.ext 0) 0] [bd s r l] (.dE []) [bd s r (v3 s r l)]:=by
 have j5:(1000:Nat)≤maxLen:=by decide
 refine JJ.intro Tryz.func47 rfl rfl rfl rfl ?_;refine⟨_,vy s (by omega),?_⟩;refine⟨rfl,?_⟩;refine⟨_,_,Ym s r l hm hl (fun i m _ wW o=>UX i s.bG m (hw.aa.2 m wW)),rfl,?_⟩;exact⟨rfl,rfl⟩
def Yr(s:ae)(m:aj)(w:Bool):List cf→Bool
 | []=>w
 | p::r=>Yr s m (if(bif s.Written then !w else false)=true then(jt m.dO p.aT).2 !=0 else w) r
def UZ(m:aj):Bool:=bif(m.cI !=0)then true else !(decide (-7≤m.dO)&&decide (m.dO≤7))
def IP(s:ae)(m:aj):Bool:=Yr s m (UZ m) s.ay
set_option maxHeartbeats 2000000 in
theorem U0(s:ae)(r:Int)(o:List ah)(i:Int)(m:aj)(hw:m.wf)(hp:s.ay.length≤1000000):
  JJ 86 [nI i,.agg m.enc,.ptr (.ext 0) 0] [.mix 138 [.ptr (.ext 1) 0],bd s r o] (nB (IP s m)) [.mix 138 [.ptr (.ext 1) 0],bd s r o]:=by
 have j5:(1000000:Nat)≤maxLen:=by decide
 refine JJ.intro Tryz.func86 rfl rfl rfl rfl ?_;refine⟨_,kU m hw.bC.Unit,?_⟩;refine⟨_,fun _=>ir _ _ _,?_⟩;refine⟨_,al _ _,?_⟩;obtain⟨R,hR⟩:∃R,IP s m=R:=⟨_,rfl⟩
 rw[hR];refine⟨[2,4,8,28,29,30],[.ext 0,.ext 1,.own 4],fun q S=>∃(k:Nat) (w:Bool),k≤s.ay.length∧q=s.ay.length-k∧Yr s m w (s.ay.drop k)=R∧
  S=St.mk' [(2,.ptr (.ext 0) 0),(4,.ptr (.own 4) 0),(8,nB w),(28,.p (.sl 6 (s.ay.map cf.enc))),(29,nI s.ay.length),(30,nI k)] [(.ext 0,.mix 138 [.ptr (.ext 1) 0]),(.ext 1,bd s r o),(.own 4,.pure 82 m.enc)],⟨_,0,_,by omega,rfl,hR,rfl⟩,?_⟩
 rintro q S ⟨k,w,hk,rfl,aw,rfl⟩;refine ab (fun h=>?_) (fun h=>?_)
 ·have h:=of_decide_eq_true h;have aN:k<s.ay.length:=by omega
  have bW:=ao cf.enc s.ay k aN;rw[aF aN]at aw;obtain⟨p,Ys⟩:∃p,p=s.ay.getD k default:=⟨_,rfl⟩
  rw[←Ys]at bW aw;have aw:Yr s m (if(bif s.Written then !w else false)=true then(jt m.dO p.aT).2 !=0 else w) (s.ay.drop (k+1))=R:=aw;refine⟨_,bW,?_⟩;refine⟨rfl,?_⟩;refine ab (fun h=>?_) (fun h=>?_)
  ·have h:(bif s.Written then !w else false)=true:=h;rw[if_pos h]at aw;refine⟨_,G6 _ _,?_⟩;refine⟨_,wrap_i64 (by omega) (by omega),?_⟩;exact⟨_,by omega,k+1,_,by omega,rfl,aw,rfl⟩
  ·have h:(bif s.Written then !w else false)=false:=h;rw[if_neg (by rw[h];simp)]at aw;refine⟨_,wrap_i64 (by omega) (by omega),?_⟩;exact⟨_,by omega,k+1,_,by omega,rfl,aw,rfl⟩
 ·have h:=of_decide_eq_false h;rw[List.drop_eq_nil_of_le (by omega)]at aw;have aw:w=R:=aw;subst aw;exact⟨rfl,rfl⟩
abbrev v5(s:ae)(r:Int)(l:List ah):List ah:=gS (fun _ m=>IP s m) r 0 s.aa l
theorem U1(s:ae)(r:Int)(l:List ah)(hw:s.wf)(hp:s.ay.length≤1000)(hm:s.aa.length≤1000000)(hl:l.length≤100000000):
  JJ 49 [.ptr (.ext 0) 0] [bd s r l] (.dE []) [bd s r (v5 s r l)]:=by
 refine JJ.intro Tryz.func49 rfl rfl rfl rfl ?_;refine⟨_,_,SL s r l hm hl (fun i m _ wW o=>U0 s r o i m (hw.aa.2 m wW) (by omega)),rfl,?_⟩;exact⟨rfl,rfl⟩
open Go.Proofs
def Hp(len:Int)(l:List ba)(w:Bool)(i:Nat)(y:ba):Bool:=
 bif(bif(bif w then true else((if ef y.fq=true then(11:Int)else 0)!=0))then true else !(decide (0≤y.At)&&decide (y.At≤IntKind.i64.wrap (len-1))))then true
  else(bif decide ((i:Int)>0)then decide (y.At≤(l.getD (i-1) default).At)else false)
def U2(len:Int)(l:List ba)(w:Bool):Nat→List ba→Bool
 | _,[]=>w
 | i,y::r=>U2 len l (Hp len l w i y) (i+1) r
def U3(len:Int)(w:Bool):List aI→Bool
 | []=>w
 | c::r=>U3 len (U2 len c.bm w 0 c.bm) r
def Fi(m:aj):Bool:=bif U3 m.len false m.Cells then(m.cI==0)else false
set_option maxHeartbeats 2000000 in
theorem U4(i:Int)(m:aj)(hw:m.wf):JJ 85 [nI i,.agg m.enc] [] (nB (Fi m)) []:=by
 have fw:maxLen≤9223372036854775807:=by decide
 have dP:=hw.Cells.1;refine JJ.intro Tryz.func85 rfl rfl rfl rfl ?_;refine⟨_,kU m hw.bC.Unit,?_⟩;refine⟨_,al _ _,?_⟩;unfold Fi;obtain⟨R,hR⟩:∃R,U3 m.len false m.Cells=R:=⟨_,rfl⟩
 rw[hR];refine⟨[5,6,7,18,19,20],[],fun q S=>∃(k:Nat) (w:Bool),k≤m.Cells.length∧q=m.Cells.length-k∧U3 m.len w (m.Cells.drop k)=R∧
  S=St.mk' [(5,nI m.len),(6,nI m.cI),(7,nB w),(18,.p (.sl 2 (m.Cells.map aI.enc))),(19,nI m.Cells.length),(20,nI k)] [],⟨_,0,_,by omega,rfl,hR,rfl⟩,?_⟩
 rintro q S ⟨k,w,hk,rfl,aw,rfl⟩;refine ab (fun h=>?_) (fun h=>?_)
 ·have h:=of_decide_eq_true h;have aN:k<m.Cells.length:=by omega
  have bW:=ao aI.enc m.Cells k aN;have pk:=hw.Cells.2 _ (av aN);rw[aF aN]at aw;obtain⟨c,hc⟩:∃c,c=m.Cells.getD k default:=⟨_,rfl⟩
  rw[←hc]at bW pk aw;have GR:=pk.bm.1;have aw:U3 m.len (U2 m.len c.bm w 0 c.bm) (m.Cells.drop (k+1))=R:=aw;obtain⟨Z,hZ⟩:∃Z,U2 m.len c.bm w 0 c.bm=Z:=⟨_,rfl⟩
  rw[hZ]at aw;refine⟨_,bW,?_⟩;refine⟨rfl,?_⟩;refine⟨_,al _ _,?_⟩;refine⟨[5,6,7,9,18,19,20,25,26,27],[.own 9],fun q S=>∃(j:Nat) (w:Bool),j≤c.bm.length∧q=c.bm.length-j∧U2 m.len c.bm w j (c.bm.drop j)=Z∧
   S=St.mk' [(5,nI m.len),(6,nI m.cI),(7,nB w),(9,.ptr (.own 9) 0),(18,.p (.sl 2 (m.Cells.map aI.enc))),(19,nI m.Cells.length),(20,nI k),(25,.p (.sl 2 (c.bm.map ba.enc))),(26,nI c.bm.length),(27,nI j)] [(.own 9,.pure 86 c.enc)],⟨_,0,_,by omega,rfl,hZ,rfl⟩,?_⟩
  rintro q S ⟨j,w,hj,rfl,fh,rfl⟩;refine ab (fun h=>?_) (fun h=>?_)
  ·have h:=of_decide_eq_true h;have nr:j<c.bm.length:=by omega
   have gL:=ao ba.enc c.bm j nr;rw[aF nr]at fh;obtain⟨y,hy⟩:∃y,y=c.bm.getD j default:=⟨_,rfl⟩
   rw[←hy]at gL fh;have fh:U2 m.len c.bm (Hp m.len c.bm w j y) (j+1) (c.bm.drop (j+1))=Z:=fh;refine⟨_,gL,?_⟩;refine⟨rfl,?_⟩;refine⟨rfl,?_⟩;refine⟨_,fun _=>G3 _,?_⟩;refine⟨_,fun _=>rfl,?_⟩;refine⟨_,fun _=>ir _ _ _,?_⟩;have g1:∀h:decide ((j:Int)>0)=true,0<j:=fun h=>by have:=of_decide_eq_true h;omega
   refine⟨((j-1:Nat):Int),fun _ h=>by have:=g1 h;rw[wrap_i64 (by omega) (by omega)];omega,?_⟩;refine⟨_,fun _ h=>ao ba.enc c.bm (j-1) (by have:=g1 h;omega),?_⟩;refine⟨_,wrap_i64 (by omega) (by omega),?_⟩;exact⟨_,by omega,j+1,_,by omega,rfl,fh,rfl⟩
  ·have h:=of_decide_eq_false h;rw[List.drop_eq_nil_of_le (by omega)]at fh;have fh:w=Z:=fh;subst fh;refine⟨_,wrap_i64 (by omega) (by omega),?_⟩;exact⟨m.Cells.length-(k+1),by omega,k+1,_,by omega,rfl,aw,rfl⟩
 ·have h:=of_decide_eq_false h;rw[List.drop_eq_nil_of_le (by omega)]at aw;have aw:w=R:=aw;subst aw;exact⟨rfl,rfl⟩
def SM(r:Int):List ee→List ah→List ah
 | [],l=>l
 | x::rest,l=>SM r rest (gE ((if ef x.fq=true then(11:Int)else 0)!=0) r x.ID l)
def U5(r:Int):List cf→List ah→List ah
 | [],l=>l
 | p::rest,l=>U5 r rest (SM r p.aL l)
theorem IQ(r:Int):∀(ps:List ee) (l:List ah),(SM r ps l).length≤l.length+ps.length
 | [],l=>Nat.le_refl _
 | x::rest,l=>by
  refine Nat.le_trans (IQ r rest _) ?_;have:=cS ((if ef x.fq=true then(11:Int)else 0)!=0) r x.ID l;rw[List.length_cons];omega
theorem Da(r:Int):∀(ps:List cf) (l:List ah),(∀p∈ps,p.aL.length≤1000)→(U5 r ps l).length≤l.length+1000*ps.length
 | [],l,_=>Nat.le_refl _
 | p::rest,l,h=>by
  refine Nat.le_trans (Da r rest _ (fun q hq=>h q (by simp[hq]))) ?_;have:=IQ r p.aL l;have:=h p (by simp);rw[List.length_cons];omega
abbrev v4(s:ae)(r:Int)(l:List ah):List ah:=gS (fun _ m=>Fi m) r 0 s.aa (U5 r s.ay l)
set_option maxHeartbeats 2000000 in
theorem U6(s:ae)(r:Int)(l:List ah)(hw:s.wf)(hp:s.ay.length≤1000)(kl:∀p∈s.ay,p.aL.length≤1000)(hm:s.aa.length≤1000000)(hl:l.length≤90000000):
  JJ 48 [.ptr (.ext 0) 0] [bd s r l] (.dE []) [bd s r (v4 s r l)]:=by
 have j5:(1000:Nat)≤maxLen:=by decide
 have K5:=Da r s.ay l kl;refine JJ.intro Tryz.func48 rfl rfl rfl rfl ?_;refine⟨_,al _ _,?_⟩;obtain⟨R,hR⟩:∃R,U5 r s.ay l=R:=⟨_,rfl⟩
 show oK _ _ _ _ _;unfold v4;rw[hR];rw[hR]at K5;refine⟨[0,10,11,12],[.ext 0],fun q S=>∃(k:Nat) (o:List ah),k≤s.ay.length∧q=s.ay.length-k∧o.length≤l.length+1000*k∧U5 r (s.ay.drop k) o=R∧
  S=St.mk' [(0,.ptr (.ext 0) 0),(10,.p (.sl 6 (s.ay.map cf.enc))),(11,nI s.ay.length),(12,nI k)] [(.ext 0,bd s r o)],⟨_,0,l,by omega,rfl,by omega,hR,rfl⟩,?_⟩
 rintro q S ⟨k,o,hk,rfl,iz,aw,rfl⟩;refine ab (fun h=>?_) (fun h=>?_)
 ·have h:=of_decide_eq_true h;have aN:k<s.ay.length:=by omega
  have bW:=ao cf.enc s.ay k aN;have kC:=kl _ (av aN);rw[aF aN]at aw;obtain⟨p,Ys⟩:∃p,p=s.ay.getD k default:=⟨_,rfl⟩
  rw[←Ys]at bW aw kC;have aw:U5 r (s.ay.drop (k+1)) (SM r p.aL o)=R:=aw;obtain⟨Z,hZ⟩:∃Z,SM r p.aL o=Z:=⟨_,rfl⟩
  rw[hZ]at aw;obtain⟨o0,ze⟩:∃o0:List ah,o0=o:=⟨_,rfl⟩
  refine⟨_,bW,?_⟩;refine⟨rfl,?_⟩;refine⟨_,al _ _,?_⟩;refine⟨[0,10,11,12,17,18,19],[.ext 0],fun q S=>∃(j:Nat) (o:List ah),j≤p.aL.length∧q=p.aL.length-j∧o.length≤o0.length+j∧SM r (p.aL.drop j) o=Z∧
   S=St.mk' [(0,.ptr (.ext 0) 0),(10,.p (.sl 6 (s.ay.map cf.enc))),(11,nI s.ay.length),(12,nI k),(17,.p (.sl 3 (p.aL.map ee.enc))),(18,nI p.aL.length),(19,nI j)] [(.ext 0,bd s r o)],⟨_,0,o,by omega,rfl,by rw[ze];omega,hZ,rfl⟩,?_⟩
  subst ze;rintro q S ⟨j,o,hj,rfl,Pf,fh,rfl⟩;refine ab (fun h=>?_) (fun h=>?_)
  ·have h:=of_decide_eq_true h;have nr:j<p.aL.length:=by omega
   have gL:=ao ee.enc p.aL j nr;rw[aF nr]at fh;obtain⟨y,hy⟩:∃y,y=p.aL.getD j default:=⟨_,rfl⟩
   rw[←hy]at gL fh;have fh:SM r (p.aL.drop (j+1)) (gE ((if ef y.fq=true then(11:Int)else 0)!=0) r y.ID o)=Z:=fh;have Ei:=cS ((if ef y.fq=true then(11:Int)else 0)!=0) r y.ID o;refine⟨_,gL,?_⟩;refine⟨rfl,?_⟩;refine⟨rfl,?_⟩;refine⟨_,G3 _,?_⟩;refine⟨_,_,ix s r o _ y.ID (by omega),rfl,?_⟩;refine⟨_,wrap_i64 (by omega) (by omega),?_⟩;exact⟨_,by omega,j+1,_,by omega,rfl,by omega,fh,rfl⟩
  ·have h:=of_decide_eq_false h;rw[List.drop_eq_nil_of_le (by omega)]at fh;have fh:o=Z:=fh;subst fh;refine⟨_,wrap_i64 (by omega) (by omega),?_⟩;refine⟨s.ay.length-(k+1),?_,k+1,_,?_,rfl,?_,aw,rfl⟩
   ·omega
   ·omega
   ·omega
 ·have h:=of_decide_eq_false h;rw[List.drop_eq_nil_of_le (by omega)]at aw;have aw:o=R:=aw;subst aw;refine⟨_,_,N8 s r o hm (by omega) (fun i m _ wW o=>U4 i m (hw.aa.2 m wW)),rfl,?_⟩;exact⟨rfl,rfl⟩
open Go.Proofs
theorem Oa{fb fg:FuncId}{n0:Int}{fn:FuncId}{p:aI→Bool}(l:List aI)(hl:l.length≤maxLen)(hp:∀x∈l,JJ fn [.agg x.enc,.ptr (.ext 0) 0,.ptr (.ext 1) 0,.ptr (.ext 2) 0] [.mix 184 [.fn fb [] []],.mix 171 [.fn fg [] []],.pure 3 [.int .i64 n0]] (nB (p x)) [.mix 184 [.fn fb [] []],.mix 171 [.fn fg [] []],.pure 3 [.int .i64 n0]]):JJ 180 [.p (.sl 2 (l.map aI.enc)),.fn fn [] [.ptr (.ext 0) 0,.ptr (.ext 1) 0,.ptr (.ext 2) 0]] [.mix 184 [.fn fb [] []],.mix 171 [.fn fg [] []],.pure 3 [.int .i64 n0]] (nI (bg p l)) [.mix 184 [.fn fb [] []],.mix 171 [.fn fg [] []],.pure 3 [.int .i64 n0]]:=by
 refine JJ.intro Tryz.func180 rfl rfl rfl rfl ?_;have fw:maxLen≤9223372036854775807:=by decide
 refine⟨_,al _ _,?_⟩;refine⟨[0,1,7,8],[.ext 0,.ext 1,.ext 2],fun n S=>∃k:Nat,k≤l.length∧n=l.length-k∧(if bg p (l.drop k)= -1 then-1 else bg p (l.drop k)+k)=bg p l∧S=St.mk' [(0,.p (.sl 2 (l.map aI.enc))),(1,.fn fn [] [.ptr (.ext 0) 0,.ptr (.ext 1) 0,.ptr (.ext 2) 0]),(7,nI l.length),(8,nI k)] [(.ext 0,.mix 184 [.fn fb [] []]),(.ext 1,.mix 171 [.fn fg [] []]),(.ext 2,.pure 3 [.int .i64 n0])],⟨_,0,by omega,rfl,by rw[List.drop_zero];split<;>simp_all,rfl⟩,?_⟩;rintro n S ⟨k,hk,rfl,hf,rfl⟩;refine ab (fun h=>?_) (fun h=>?_)
 ·have h:=of_decide_eq_true h;have b9:k<l.length:=by omega
  rw[dB b9]at hf;refine⟨_,ao _ _ _ b9,?_⟩;refine⟨_,_,hp (l.getD k default) (av b9),rfl,?_⟩;cases hx:p (l.getD k default)with
  | true=>
   refine ab (fun h=>?_) (fun h=>by cases h);rw[hx]at hf;have hf:(k:Int)=bg p l:=by rw[←hf];simp
   rw[←hf];exact⟨rfl,rfl⟩
  | false=>
   refine ab (fun h=>by cases h) (fun h=>?_);rw[hx]at hf;refine⟨_,wrap_i64 (by omega) (by omega),?_⟩;refine⟨_,by omega,k+1,by omega,rfl,?_,rfl⟩;rw[←hf];have:=dj p (l.drop (k+1));simp only[Bool.false_eq_true,if_false];by_cases h1:bg p (l.drop (k+1))= -1
   ·rw[if_pos h1,if_pos h1,if_pos rfl]
   ·rw[if_neg h1,if_neg h1,if_neg (by omega)];push_cast;omega
 ·have h:=of_decide_eq_false h;obtain rfl:k=l.length:=by omega
  rw[List.drop_length]at hf;have hf:(-1:Int)=bg p l:=hf;rw[←hf];exact⟨rfl,rfl⟩
theorem Ob{fb fg:FuncId}{n0:Int}{fn:FuncId}{p:aI→Bool}(l:List aI)(hl:l.length≤maxLen)(hp:∀x∈l,JJ fn [.agg x.enc,.ptr (.ext 0) 0,.ptr (.ext 1) 0,.ptr (.ext 2) 0] [.mix 184 [.fn fb [] []],.mix 171 [.fn fg [] []],.pure 3 [.int .i64 n0]] (nB (p x)) [.mix 184 [.fn fb [] []],.mix 171 [.fn fg [] []],.pure 3 [.int .i64 n0]]):JJ 134 [.p (.sl 2 (l.map aI.enc)),.fn fn [] [.ptr (.ext 0) 0,.ptr (.ext 1) 0,.ptr (.ext 2) 0]] [.mix 184 [.fn fb [] []],.mix 171 [.fn fg [] []],.pure 3 [.int .i64 n0]] (nB (l.any p)) [.mix 184 [.fn fb [] []],.mix 171 [.fn fg [] []],.pure 3 [.int .i64 n0]]:=by
 refine JJ.intro Tryz.func134 rfl rfl rfl rfl ?_;refine⟨_,_,Oa l hl hp,rfl,?_⟩;rw[←fx];exact⟨rfl,rfl⟩
theorem Oc{fb fg:FuncId}{n0:Int}{fn:FuncId}{p:ax→Bool}(l:List ax)(hl:l.length≤maxLen)(hp:∀x∈l,JJ fn [.agg x.enc,.ptr (.ext 0) 0,.ptr (.ext 1) 0,.ptr (.ext 2) 0] [.mix 184 [.fn fb [] []],.mix 171 [.fn fg [] []],.pure 3 [.int .i64 n0]] (nB (p x)) [.mix 184 [.fn fb [] []],.mix 171 [.fn fg [] []],.pure 3 [.int .i64 n0]]):JJ 181 [.p (.sl 2 (l.map ax.enc)),.fn fn [] [.ptr (.ext 0) 0,.ptr (.ext 1) 0,.ptr (.ext 2) 0]] [.mix 184 [.fn fb [] []],.mix 171 [.fn fg [] []],.pure 3 [.int .i64 n0]] (nI (bg p l)) [.mix 184 [.fn fb [] []],.mix 171 [.fn fg [] []],.pure 3 [.int .i64 n0]]:=by
 refine JJ.intro Tryz.func181 rfl rfl rfl rfl ?_;have fw:maxLen≤9223372036854775807:=by decide
 refine⟨_,al _ _,?_⟩;refine⟨[0,1,7,8],[.ext 0,.ext 1,.ext 2],fun n S=>∃k:Nat,k≤l.length∧n=l.length-k∧(if bg p (l.drop k)= -1 then-1 else bg p (l.drop k)+k)=bg p l∧S=St.mk' [(0,.p (.sl 2 (l.map ax.enc))),(1,.fn fn [] [.ptr (.ext 0) 0,.ptr (.ext 1) 0,.ptr (.ext 2) 0]),(7,nI l.length),(8,nI k)] [(.ext 0,.mix 184 [.fn fb [] []]),(.ext 1,.mix 171 [.fn fg [] []]),(.ext 2,.pure 3 [.int .i64 n0])],⟨_,0,by omega,rfl,by rw[List.drop_zero];split<;>simp_all,rfl⟩,?_⟩;rintro n S ⟨k,hk,rfl,hf,rfl⟩;refine ab (fun h=>?_) (fun h=>?_)
 ·have h:=of_decide_eq_true h;have b9:k<l.length:=by omega
  rw[dB b9]at hf;refine⟨_,ao _ _ _ b9,?_⟩;refine⟨_,_,hp (l.getD k default) (av b9),rfl,?_⟩;cases hx:p (l.getD k default)with
  | true=>
   refine ab (fun h=>?_) (fun h=>by cases h);rw[hx]at hf;have hf:(k:Int)=bg p l:=by rw[←hf];simp
   rw[←hf];exact⟨rfl,rfl⟩
  | false=>
   refine ab (fun h=>by cases h) (fun h=>?_);rw[hx]at hf;refine⟨_,wrap_i64 (by omega) (by omega),?_⟩;refine⟨_,by omega,k+1,by omega,rfl,?_,rfl⟩;rw[←hf];have:=dj p (l.drop (k+1));simp only[Bool.false_eq_true,if_false];by_cases h1:bg p (l.drop (k+1))= -1
   ·rw[if_pos h1,if_pos h1,if_pos rfl]
   ·rw[if_neg h1,if_neg h1,if_neg (by omega)];push_cast;omega
 ·have h:=of_decide_eq_false h;obtain rfl:k=l.length:=by omega
  rw[List.drop_length]at hf;have hf:(-1:Int)=bg p l:=hf;rw[←hf];exact⟨rfl,rfl⟩
theorem Od{fb fg:FuncId}{n0:Int}{fn:FuncId}{p:ax→Bool}(l:List ax)(hl:l.length≤maxLen)(hp:∀x∈l,JJ fn [.agg x.enc,.ptr (.ext 0) 0,.ptr (.ext 1) 0,.ptr (.ext 2) 0] [.mix 184 [.fn fb [] []],.mix 171 [.fn fg [] []],.pure 3 [.int .i64 n0]] (nB (p x)) [.mix 184 [.fn fb [] []],.mix 171 [.fn fg [] []],.pure 3 [.int .i64 n0]]):JJ 136 [.p (.sl 2 (l.map ax.enc)),.fn fn [] [.ptr (.ext 0) 0,.ptr (.ext 1) 0,.ptr (.ext 2) 0]] [.mix 184 [.fn fb [] []],.mix 171 [.fn fg [] []],.pure 3 [.int .i64 n0]] (nB (l.any p)) [.mix 184 [.fn fb [] []],.mix 171 [.fn fg [] []],.pure 3 [.int .i64 n0]]:=by
 refine JJ.intro Tryz.func136 rfl rfl rfl rfl ?_;refine⟨_,_,Oc l hl hp,rfl,?_⟩;rw[←fx];exact⟨rfl,rfl⟩
theorem Oe{fg:FuncId}{n0:Int}{fn:FuncId}{p:aS→Bool}(l:List aS)(hl:l.length≤maxLen)(hp:∀x∈l,JJ fn [.agg x.enc,.ptr (.ext 0) 0] [.mix 177 [.fn fg [] [.ptr (.ext 1) 0]],.pure 3 [.int .i64 n0]] (nB (p x)) [.mix 177 [.fn fg [] [.ptr (.ext 1) 0]],.pure 3 [.int .i64 n0]]):JJ 149 [.p (.sl 5 (l.map aS.enc)),.fn fn [] [.ptr (.ext 0) 0]] [.mix 177 [.fn fg [] [.ptr (.ext 1) 0]],.pure 3 [.int .i64 n0]] (nI (bg p l)) [.mix 177 [.fn fg [] [.ptr (.ext 1) 0]],.pure 3 [.int .i64 n0]]:=by
 refine JJ.intro Tryz.func149 rfl rfl rfl rfl ?_;have fw:maxLen≤9223372036854775807:=by decide
 refine⟨_,al _ _,?_⟩;refine⟨[0,1,7,8],[.ext 0,.ext 1],fun n S=>∃k:Nat,k≤l.length∧n=l.length-k∧(if bg p (l.drop k)= -1 then-1 else bg p (l.drop k)+k)=bg p l∧S=St.mk' [(0,.p (.sl 5 (l.map aS.enc))),(1,.fn fn [] [.ptr (.ext 0) 0]),(7,nI l.length),(8,nI k)] [(.ext 0,.mix 177 [.fn fg [] [.ptr (.ext 1) 0]]),(.ext 1,.pure 3 [.int .i64 n0])],⟨_,0,by omega,rfl,by rw[List.drop_zero];split<;>simp_all,rfl⟩,?_⟩;rintro n S ⟨k,hk,rfl,hf,rfl⟩;refine ab (fun h=>?_) (fun h=>?_)
 ·have h:=of_decide_eq_true h;have b9:k<l.length:=by omega
  rw[dB b9]at hf;refine⟨_,ao _ _ _ b9,?_⟩;refine⟨_,_,hp (l.getD k default) (av b9),rfl,?_⟩;cases hx:p (l.getD k default)with
  | true=>
   refine ab (fun h=>?_) (fun h=>by cases h);rw[hx]at hf;have hf:(k:Int)=bg p l:=by rw[←hf];simp
   rw[←hf];exact⟨rfl,rfl⟩
  | false=>
   refine ab (fun h=>by cases h) (fun h=>?_);rw[hx]at hf;refine⟨_,wrap_i64 (by omega) (by omega),?_⟩;refine⟨_,by omega,k+1,by omega,rfl,?_,rfl⟩;rw[←hf];have:=dj p (l.drop (k+1));simp only[Bool.false_eq_true,if_false];by_cases h1:bg p (l.drop (k+1))= -1
   ·rw[if_pos h1,if_pos h1,if_pos rfl]
   ·rw[if_neg h1,if_neg h1,if_neg (by omega)];push_cast;omega
 ·have h:=of_decide_eq_false h;obtain rfl:k=l.length:=by omega
  rw[List.drop_length]at hf;have hf:(-1:Int)=bg p l:=hf;rw[←hf];exact⟨rfl,rfl⟩
theorem xt{fg:FuncId}{n0:Int}{fn:FuncId}{p:aS→Bool}(l:List aS)(hl:l.length≤maxLen)(hp:∀x∈l,JJ fn [.agg x.enc,.ptr (.ext 0) 0] [.mix 177 [.fn fg [] [.ptr (.ext 1) 0]],.pure 3 [.int .i64 n0]] (nB (p x)) [.mix 177 [.fn fg [] [.ptr (.ext 1) 0]],.pure 3 [.int .i64 n0]]):JJ 95 [.p (.sl 5 (l.map aS.enc)),.fn fn [] [.ptr (.ext 0) 0]] [.mix 177 [.fn fg [] [.ptr (.ext 1) 0]],.pure 3 [.int .i64 n0]] (nB (l.any p)) [.mix 177 [.fn fg [] [.ptr (.ext 1) 0]],.pure 3 [.int .i64 n0]]:=by
 refine JJ.intro Tryz.func95 rfl rfl rfl rfl ?_;refine⟨_,_,Oe l hl hp,rfl,?_⟩;rw[←fx];exact⟨rfl,rfl⟩
theorem Of{fg:FuncId}{n0:Int}{fn:FuncId}{p:bE→Bool}(l:List bE)(hl:l.length≤maxLen)(hp:∀x∈l,JJ fn [.agg x.enc,.ptr (.ext 0) 0] [.mix 177 [.fn fg [] [.ptr (.ext 1) 0]],.pure 3 [.int .i64 n0]] (nB (p x)) [.mix 177 [.fn fg [] [.ptr (.ext 1) 0]],.pure 3 [.int .i64 n0]]):JJ 150 [.p (.sl 5 (l.map bE.enc)),.fn fn [] [.ptr (.ext 0) 0]] [.mix 177 [.fn fg [] [.ptr (.ext 1) 0]],.pure 3 [.int .i64 n0]] (nI (bg p l)) [.mix 177 [.fn fg [] [.ptr (.ext 1) 0]],.pure 3 [.int .i64 n0]]:=by
 refine JJ.intro Tryz.func150 rfl rfl rfl rfl ?_;have fw:maxLen≤9223372036854775807:=by decide
 refine⟨_,al _ _,?_⟩;refine⟨[0,1,7,8],[.ext 0,.ext 1],fun n S=>∃k:Nat,k≤l.length∧n=l.length-k∧(if bg p (l.drop k)= -1 then-1 else bg p (l.drop k)+k)=bg p l∧S=St.mk' [(0,.p (.sl 5 (l.map bE.enc))),(1,.fn fn [] [.ptr (.ext 0) 0]),(7,nI l.length),(8,nI k)] [(.ext 0,.mix 177 [.fn fg [] [.ptr (.ext 1) 0]]),(.ext 1,.pure 3 [.int .i64 n0])],⟨_,0,by omega,rfl,by rw[List.drop_zero];split<;>simp_all,rfl⟩,?_⟩;rintro n S ⟨k,hk,rfl,hf,rfl⟩;refine ab (fun h=>?_) (fun h=>?_)
 ·have h:=of_decide_eq_true h;have b9:k<l.length:=by omega
  rw[dB b9]at hf;refine⟨_,ao _ _ _ b9,?_⟩;refine⟨_,_,hp (l.getD k default) (av b9),rfl,?_⟩;cases hx:p (l.getD k default)with
  | true=>
   refine ab (fun h=>?_) (fun h=>by cases h);rw[hx]at hf;have hf:(k:Int)=bg p l:=by rw[←hf];simp
   rw[←hf];exact⟨rfl,rfl⟩
  | false=>
   refine ab (fun h=>by cases h) (fun h=>?_);rw[hx]at hf;refine⟨_,wrap_i64 (by omega) (by omega),?_⟩;refine⟨_,by omega,k+1,by omega,rfl,?_,rfl⟩;rw[←hf];have:=dj p (l.drop (k+1));simp only[Bool.false_eq_true,if_false];by_cases h1:bg p (l.drop (k+1))= -1
   ·rw[if_pos h1,if_pos h1,if_pos rfl]
   ·rw[if_neg h1,if_neg h1,if_neg (by omega)];push_cast;omega
 ·have h:=of_decide_eq_false h;obtain rfl:k=l.length:=by omega
  rw[List.drop_length]at hf;have hf:(-1:Int)=bg p l:=hf;rw[←hf];exact⟨rfl,rfl⟩
theorem xu{fg:FuncId}{n0:Int}{fn:FuncId}{p:bE→Bool}(l:List bE)(hl:l.length≤maxLen)(hp:∀x∈l,JJ fn [.agg x.enc,.ptr (.ext 0) 0] [.mix 177 [.fn fg [] [.ptr (.ext 1) 0]],.pure 3 [.int .i64 n0]] (nB (p x)) [.mix 177 [.fn fg [] [.ptr (.ext 1) 0]],.pure 3 [.int .i64 n0]]):JJ 97 [.p (.sl 5 (l.map bE.enc)),.fn fn [] [.ptr (.ext 0) 0]] [.mix 177 [.fn fg [] [.ptr (.ext 1) 0]],.pure 3 [.int .i64 n0]] (nB (l.any p)) [.mix 177 [.fn fg [] [.ptr (.ext 1) 0]],.pure 3 [.int .i64 n0]]:=by
 refine JJ.intro Tryz.func97 rfl rfl rfl rfl ?_;refine⟨_,_,Of l hl hp,rfl,?_⟩;rw[←fx];exact⟨rfl,rfl⟩
open Go.Proofs
def Hq(e:aD):Bool:=e.err !=0
theorem Rv(e:aD)(hw:e.wf):JJ 133 [.agg e.enc] [] (nB (Hq e)) []:=by
 refine JJ.intro Tryz.func133 rfl rfl rfl rfl ?_;refine⟨_,vq e hw.aE.1 hw.cQ.1 hw.bz.1,?_⟩;exact⟨rfl,rfl⟩
theorem U7(p:bt)(e:aD)(hw:e.wf):JJ 91 [.agg p.enc,.agg e.enc] [] (nB (Hq e)) []:=by
 refine JJ.intro Tryz.func91 rfl rfl rfl rfl ?_;refine⟨_,vq e hw.aE.1 hw.cQ.1 hw.bz.1,?_⟩;exact⟨rfl,rfl⟩
theorem U8(n:Int):JJ 89 [nI n] [] (nB (bif(n !=0)then !((n==11)||(n==20))else false)) []:=by
 refine JJ.intro Tryz.func89 rfl rfl rfl rfl ?_;refine⟨_,fun _=>Np n,?_⟩;exact⟨rfl,rfl⟩
def voF(gB:Int→Bool)(n:Int)(v:ax):Bool:=bif !(v.ak.any Hq)then gB (bu v n).2 else false
def ceF(gB:Int→Bool)(n:Int)(c:aI):Bool:=c.ai.any (voF gB n)
def Ws(gB:Int→Bool)(m:aj):Bool:=if m.cI≠0 then false else m.Cells.any (ceF gB m.len)
section
variable {fg:FuncId} {gB:Int→Bool}
abbrev ZL(fg:FuncId)(n:Int):List er:= [.mix 184 [.fn 133 [] []],.mix 171 [.fn fg [] []],.pure 3 [.int .i64 n]]
theorem Rw(hg:∀n,JJ fg [nI n] [] (nB (gB n)) [])(n:Int)(v:ax)(hw:v.wf):
  JJ 137 [.agg v.enc,.ptr (.ext 0) 0,.ptr (.ext 1) 0,.ptr (.ext 2) 0] (ZL fg n) (nB (voF gB n v)) (ZL fg n):=by
 refine JJ.intro Tryz.func137 rfl rfl rfl rfl ?_;refine⟨rfl,?_⟩;refine⟨_,Nk v.ak hw.ak.1 (fun e he=>Rv e (hw.ak.2 e he)),?_⟩;refine⟨_,fun _=>QZ v n hw,?_⟩;refine⟨_,fun _=>hg _,?_⟩;exact⟨rfl,rfl⟩
theorem Rx(hg:∀n,JJ fg [nI n] [] (nB (gB n)) [])(n:Int)(c:aI)(hw:c.wf):
  JJ 135 [.agg c.enc,.ptr (.ext 0) 0,.ptr (.ext 1) 0,.ptr (.ext 2) 0] (ZL fg n) (nB (ceF gB n c)) (ZL fg n):=by
 refine JJ.intro Tryz.func135 rfl rfl rfl rfl ?_;refine⟨_,_,Od c.ai hw.ai.1 (fun v hv=>Rw hg n v (hw.ai.2 v hv)),rfl,?_⟩;exact⟨rfl,rfl⟩
theorem Ry(hg:∀n,JJ fg [nI n] [] (nB (gB n)) [])(i:Int)(m:aj)(hw:m.wf):
  JJ 132 [nI i,.agg m.enc,.ptr (.ext 0) 0] [.mix 171 [.fn fg [] []]] (nB (Ws gB m)) [.mix 171 [.fn fg [] []]]:=by
 unfold Ws;refine JJ.intro Tryz.func132 rfl rfl rfl rfl ?_;refine⟨_,kU m hw.bC.Unit,?_⟩;refine⟨rfl,?_⟩;refine ab (fun h=>?_) (fun h=>?_)
 ·have h:(m.cI !=0)=true:=h;rw[if_pos (by simpa using h)];exact⟨rfl,rfl⟩
 ·have h:(m.cI !=0)=false:=h;rw[if_neg (by simpa using h)];refine⟨_,_,Ob m.Cells hw.Cells.1 (fun c hc=>Rx hg m.len c (hw.Cells.2 c hc)),rfl,?_⟩;exact⟨rfl,rfl⟩
theorem Og(hg:∀n,JJ fg [nI n] [] (nB (gB n)) [])(s:ae)(r:Int)(l:List ah)(hw:s.wf)(hm:s.aa.length≤1000000)(hl:l.length≤100000000):
  JJ 87 [.ptr (.ext 0) 0,.fn fg [] []] [bd s r l] (.dE []) [bd s r (gS (fun _ m=>Ws gB m) r 0 s.aa l)]:=by
 refine JJ.intro Tryz.func87 rfl rfl rfl rfl ?_;refine⟨_,_,Yn s r l hm hl (fun i m _ wW o=>Ry hg i m (hw.aa.2 m wW)),rfl,?_⟩;exact⟨rfl,rfl⟩
end
abbrev Oh(n:Int):Bool:=(n==11)||(n==20)
abbrev v6(s:ae)(r:Int)(l:List ah):List ah:=gS (fun _ m=>Ws Oh m) r 0 s.aa l
abbrev Hr(n:Int):Bool:=bif(n !=0)then !Oh n else false
abbrev v7(s:ae)(r:Int)(l:List ah):List ah:=gS (fun _ m=>Ws Hr m) r 0 s.aa l
theorem U9(s:ae)(r:Int)(l:List ah)(hw:s.wf)(hm:s.aa.length≤1000000)(hl:l.length≤100000000):
  JJ 50 [.ptr (.ext 0) 0] [bd s r l] (.dE []) [bd s r (v6 s r l)]:=by
 refine JJ.intro Tryz.func50 rfl rfl rfl rfl ?_;refine⟨_,_,Og Np s r l hw hm hl,rfl,?_⟩;exact⟨rfl,rfl⟩
theorem Va(s:ae)(r:Int)(l:List ah)(hw:s.wf)(hm:s.aa.length≤1000000)(hl:l.length≤100000000):
  JJ 51 [.ptr (.ext 0) 0] [bd s r l] (.dE []) [bd s r (v7 s r l)]:=by
 refine JJ.intro Tryz.func51 rfl rfl rfl rfl ?_;refine⟨_,_,Og (gB:=Hr) U8 s r l hw hm hl,rfl,?_⟩;exact⟨rfl,rfl⟩
abbrev v8(s:ae)(r:Int)(l:List ah):List ah:=zI (fun i k v n=>Hq (s.ev i k v n)) r 0 s.aa l
theorem At.ZM{s:ae}{i k v n:Nat}(hw:s.wf)(h:At s i k v n):(s.ev i k v n).wf:=by
 have h1:=hw.aa.2 _ (av h.hi);have h2:=h1.Cells.2 _ (av h.hc);have h3:(s.vo i k v).wf:=h2.ai.2 _ (av h.hv);exact h3.ak.2 _ (av h.hx)
theorem Vb(s:ae)(r:Int)(l:List ah)(hw:s.wf)(hF:rl s)(hl:l.length≤100000000):
  JJ 52 [.ptr (.ext 0) 0] [bd s r l] (.dE []) [bd s r (v8 s r l)]:=by
 refine JJ.intro Tryz.func52 rfl rfl rfl rfl ?_;refine⟨_,_,Yo s r l hF hl (fun i k v n hA o=>U7 _ _ (hA.ZM hw)),rfl,?_⟩;exact⟨rfl,rfl⟩
def Hs(shift:Int)(q:aH):Bool:= !(decide (0≤IntKind.i64.wrap (nq q+shift))&&decide (IntKind.i64.wrap (nq q+shift)≤127))
theorem Oi(shift:Int)(q:aH):JJ 94 [.agg q.enc,.ptr (.ext 0) 0] [.pure 3 [.int .i64 shift]] (nB (Hs shift q)) [.pure 3 [.int .i64 shift]]:=by
 refine JJ.intro Tryz.func94 rfl rfl rfl rfl ?_;refine⟨_,yH q,?_⟩;refine⟨_,rfl,?_⟩;refine⟨_,ir _ _ _,?_⟩;exact⟨rfl,rfl⟩
abbrev ZN(shift:Int):List er:= [.mix 177 [.fn 94 [] [.ptr (.ext 1) 0]],.pure 3 [.int .i64 shift]]
theorem Db(shift:Int)(h:aS):JJ 96 [.agg h.enc,.ptr (.ext 0) 0] (ZN shift) (nB (Hs shift h.aB)) (ZN shift):=by
 refine JJ.intro Tryz.func96 rfl rfl rfl rfl ?_;refine⟨_,_,Oi shift h.aB,rfl,?_⟩;exact⟨rfl,rfl⟩
theorem Dc(shift:Int)(h:bE):JJ 98 [.agg h.enc,.ptr (.ext 0) 0] (ZN shift) (nB (Hs shift h.aB)) (ZN shift):=by
 refine JJ.intro Tryz.func98 rfl rfl rfl rfl ?_;refine⟨_,_,Oi shift h.aB,rfl,?_⟩;exact⟨rfl,rfl⟩
open Go.Proofs
theorem wH:∀(l:List cf) (i:Nat) (st:Int),(ek i st l).2.2=0→(i:Int)≤(ek i st l).1∧(ek i st l).1<i+l.length
 | [],i,st,h=>by simp[ek]at h
 | p::r,i,st,h=>by
  unfold ek at h ⊢;split at h
  ·rename_i hc;rw[if_pos hc];rw[List.length_cons];exact⟨Int.le_refl _,by push_cast;omega⟩
  ·rename_i hc;rw[if_neg hc];have:=wH r (i+1) _ h;rw[List.length_cons];exact⟨by omega,by push_cast at this ⊢;omega⟩
theorem KG(s:ae)(st:Int)(h:(s.partOf st).2.2=0):0≤(s.partOf st).1∧(s.partOf st).1<s.ay.length:=by
 unfold ae.partOf at h ⊢;split at h
 ·cases h
 ·rename_i hc;rw[if_neg hc];have:=wH s.ay 0 st h;omega
def vF(s:ae)(st:Int):Int:=if(s.partOf st).2.2=0 then(s.ay.getD (s.partOf st).1.toNat default).aT.ct else 0
def jn(s:ae)(st:Int):Int:=if s.Written=true then IntKind.i64.wrap (0-vF s st)else vF s st
def KH(s:ae)(p:bt)(e:aD):Bool:=
 if e.err≠0 then false else bif e.aE.any (fun h=>Hs (jn s p.bA) h.aB)then true else e.cQ.any (fun h=>Hs (jn s p.bA) h.aB)
set_option maxHeartbeats 2000000 in
theorem Vc(s:ae)(r:Int)(o:List ah)(p:bt)(e:aD)(hw:e.wf)(hp:s.ay.length≤1000):
  JJ 93 [.agg p.enc,.agg e.enc,.ptr (.ext 0) 0] [.mix 138 [.ptr (.ext 1) 0],bd s r o] (nB (KH s p e)) [.mix 138 [.ptr (.ext 1) 0],bd s r o]:=by
 have j5:(1000:Nat)≤maxLen:=by decide
 refine JJ.intro Tryz.func93 rfl rfl rfl rfl ?_;refine⟨_,vq e hw.aE.1 hw.cQ.1 hw.bz.1,?_⟩;refine ab (fun h=>?_) (fun h=>?_)
 ·have h:(e.err !=0)=true:=h;have e1:KH s p e=false:=by unfold KH;rw[if_pos (by simpa using h)]
  rw[e1];exact⟨rfl,rfl⟩
 ·have h:(e.err !=0)=false:=h;have e1:KH s p e=bif e.aE.any (fun h=>Hs (jn s p.bA) h.aB)then true else e.cQ.any (fun h=>Hs (jn s p.bA) h.aB):=by unfold KH;rw[if_neg (by simpa using h)]
  rw[e1];refine⟨rfl,?_⟩;refine⟨rfl,?_⟩;refine⟨_,CZ s p.bA (by omega),?_⟩;refine ab (fun h=>?_) (fun h=>?_)
  ·have h:(s.partOf p.bA).2.2=0:=by simpa using(show((s.partOf p.bA).2.2==0)=true from h)
   have hpo:=KG s p.bA h;have e2:vF s p.bA=(s.ay.getD (s.partOf p.bA).1.toNat default).aT.ct:=by unfold vF;rw[if_pos h]
   refine⟨_,cZ cf.enc s.ay (s.partOf p.bA).1 (by omega) (by omega),?_⟩;refine⟨rfl,?_⟩;refine ab (fun iD=>?_) (fun iD=>?_)
   ·have iD:s.Written=true:=iD;have e3:jn s p.bA=IntKind.i64.wrap (0-(s.ay.getD (s.partOf p.bA).1.toNat default).aT.ct):=by unfold jn;rw[if_pos iD,e2]
    rw[e3];refine⟨_,rfl,?_⟩;refine⟨rfl,?_⟩;refine⟨_,_,xt e.aE hw.aE.1 (fun h _=>Db _ h),rfl,?_⟩;refine⟨_,fun _=>xu e.cQ hw.cQ.1 (fun h _=>Dc _ h),?_⟩;exact⟨rfl,rfl⟩
   ·have iD:s.Written=false:=iD;have e3:jn s p.bA=(s.ay.getD (s.partOf p.bA).1.toNat default).aT.ct:=by unfold jn;rw[if_neg (by rw[iD];simp),e2]
    rw[e3];refine⟨_,_,xt e.aE hw.aE.1 (fun h _=>Db _ h),rfl,?_⟩;refine⟨_,fun _=>xu e.cQ hw.cQ.1 (fun h _=>Dc _ h),?_⟩;exact⟨rfl,rfl⟩
  ·have h:¬(s.partOf p.bA).2.2=0:=by simpa using(show((s.partOf p.bA).2.2==0)=false from h)
   have e2:vF s p.bA=0:=by unfold vF;rw[if_neg h]
   refine ab (fun iD=>?_) (fun iD=>?_)
   ·have iD:s.Written=true:=iD;have e3:jn s p.bA=IntKind.i64.wrap (0-0):=by unfold jn;rw[if_pos iD,e2]
    rw[e3];refine⟨_,rfl,?_⟩;refine⟨rfl,?_⟩;refine⟨_,_,xt e.aE hw.aE.1 (fun h _=>Db _ h),rfl,?_⟩;refine⟨_,fun _=>xu e.cQ hw.cQ.1 (fun h _=>Dc _ h),?_⟩;exact⟨rfl,rfl⟩
   ·have iD:s.Written=false:=iD;have e3:jn s p.bA=0:=by unfold jn;rw[if_neg (by rw[iD];simp),e2]
    rw[e3];refine⟨_,_,xt e.aE hw.aE.1 (fun h _=>Db _ h),rfl,?_⟩;refine⟨_,fun _=>xu e.cQ hw.cQ.1 (fun h _=>Dc _ h),?_⟩;exact⟨rfl,rfl⟩
abbrev v9(s:ae)(r:Int)(l:List ah):List ah:=zI (fun i k v n=>KH s (kV i k v n) (s.ev i k v n)) r 0 s.aa l
theorem Vd(s:ae)(r:Int)(l:List ah)(hw:s.wf)(hF:rl s)(hp:s.ay.length≤1000)(hl:l.length≤100000000):
  JJ 53 [.ptr (.ext 0) 0] [bd s r l] (.dE []) [bd s r (v9 s r l)]:=by
 refine JJ.intro Tryz.func53 rfl rfl rfl rfl ?_;refine⟨_,_,N9 s r l hF hl (fun i k v n hA o=>Vc s r o _ _ (hA.ZM hw) hp),rfl,?_⟩;exact⟨rfl,rfl⟩
structure KI(s:ae):Prop where
 small:NF s
 events:∀m c v,(cO s m c v).length≤1000000000
 eF:∀q,(gK s q).1.aE.length≤maxLen
def Oj(s:ae)(p:bt)(e:aD):Bool:=if(!e.CH)=true then false else bif !(mF s p).2 then true else !oc e (gK s (mF s p).1).1
set_option maxHeartbeats 2000000 in
theorem Ve(s:ae)(r:Int)(o:List ah)(p:bt)(e:aD)(hw:e.wf)(hS:KI s)(hm: -1000000000000≤p.bc∧p.bc≤1000000000000):
  JJ 99 [.agg p.enc,.agg e.enc,.ptr (.ext 0) 0] [.mix 138 [.ptr (.ext 1) 0],bd s r o] (nB (Oj s p e)) [.mix 138 [.ptr (.ext 1) 0],bd s r o]:=by
 unfold Oj;refine JJ.intro Tryz.func99 rfl rfl rfl rfl ?_;refine⟨_,Ih e hw.aE.1,?_⟩;refine ab (fun h=>?_) (fun h=>?_)
 ·have h:(!e.CH)=true:=h;rw[if_pos h];exact⟨rfl,rfl⟩
 ·have h:(!e.CH)=false:=h;rw[if_neg (by rw[h];simp)];refine⟨rfl,?_⟩;refine⟨_,IA s p hm hS.events,?_⟩;refine⟨rfl,?_⟩;refine⟨rfl,?_⟩;refine⟨_,Rb s _ hS.small,?_⟩;refine⟨rfl,?_⟩;refine⟨_,fun _=>QA e _ hw.aE.1 (hS.eF _),?_⟩;exact⟨rfl,rfl⟩
abbrev v10(s:ae)(r:Int)(l:List ah):List ah:=zI (fun i k v n=>Oj s (kV i k v n) (s.ev i k v n)) r 0 s.aa l
theorem Vf(s:ae)(r:Int)(l:List ah)(hw:s.wf)(hF:rl s)(hS:KI s)(hl:l.length≤100000000):
  JJ 54 [.ptr (.ext 0) 0] [bd s r l] (.dE []) [bd s r (v10 s r l)]:=by
 have hm1:=hF.ep;refine JJ.intro Tryz.func54 rfl rfl rfl rfl ?_;refine⟨_,_,N9 s r l hF hl (fun i k v n hA o=>Ve s r o _ _ (hA.ZM hw) hS (by have:=hA.hi;unfold kV;simp only;omega)),rfl,?_⟩;exact⟨rfl,rfl⟩
open Go.Proofs
theorem IS{S:St}{l0:Loc}{b:er}(l:Loc)(h:S.bx l0=some b):(S.bK l0 b).bx l=S.bx l:=by
 show(bif Loc.mI l0 l then some b else S.bx l)=S.bx l;cases hb:Loc.mI l0 l with
 | true=>
  have:=Loc.fJ.1 hb;subst this;exact h.symm
 | false=>rfl
def Ok(len:Int)(l:List cN)(w:Bool)(i:Nat)(y:cN):Bool:=
 bif(bif(bif w then true else !(decide (0≤y.At)&&decide (y.At≤IntKind.i64.wrap (len-1))))then true else !(decide (1≤y.yr)&&decide (y.yr≤60000000)))then true
  else(bif decide ((i:Int)>0)then decide (y.At≤(l.getD (i-1) default).At)else false)
def ZO(len:Int)(l:List cN)(w:Bool):Nat→List cN→Bool
 | _,[]=>w
 | i,y::r=>ZO len l (Ok len l w i y) (i+1) r
def tp0(m:aj):Bool:=bif(bif(m.AS !=0)then !(decide (50≤m.AS)&&decide (m.AS≤75))else false)then true else !(decide (0≤m.Break)&&decide (m.Break≤3))
def Ol(m:aj):Bool:=ZO m.len m.iq (tp0 m) 0 m.iq
set_option maxHeartbeats 2000000 in
theorem Rz(i:Int)(m:aj)(hw:m.wf):JJ 115 [nI i,.agg m.enc] [] (nB (Ol m)) []:=by
 have fw:maxLen≤9223372036854775807:=by decide
 have dP:=hw.iq.1;refine JJ.intro Tryz.func115 rfl rfl rfl rfl ?_;refine⟨_,kU m hw.bC.Unit,?_⟩;refine⟨_,fun _=>ir _ _ _,?_⟩;refine⟨_,fun _=>ir _ _ _,?_⟩;refine⟨_,al _ _,?_⟩;obtain⟨R,hR⟩:∃R,Ol m=R:=⟨_,rfl⟩
 rw[hR];refine⟨[3,5,7,31,32,33],[.own 3],fun q S=>∃(k:Nat) (w:Bool),k≤m.iq.length∧q=m.iq.length-k∧ZO m.len m.iq w k (m.iq.drop k)=R∧
  S=St.mk' [(3,.ptr (.own 3) 0),(5,nI m.len),(7,nB w),(31,.p (.sl 3 (m.iq.map cN.enc))),(32,nI m.iq.length),(33,nI k)] [(.own 3,.pure 82 m.enc)],⟨_,0,_,by omega,rfl,hR,rfl⟩,?_⟩
 rintro q S ⟨k,w,hk,rfl,aw,rfl⟩;refine ab (fun h=>?_) (fun h=>?_)
 ·have h:=of_decide_eq_true h;have nr:k<m.iq.length:=by omega
  have gL:=ao cN.enc m.iq k nr;rw[aF nr]at aw;obtain⟨y,hy⟩:∃y,y=m.iq.getD k default:=⟨_,rfl⟩
  rw[←hy]at gL aw;have aw:ZO m.len m.iq (Ok m.len m.iq w k y) (k+1) (m.iq.drop (k+1))=R:=aw;refine⟨_,gL,?_⟩;refine⟨rfl,?_⟩;refine⟨rfl,?_⟩;refine⟨_,fun _=>rfl,?_⟩;refine⟨_,fun _=>ir _ _ _,?_⟩;refine⟨_,fun _=>ir _ _ _,?_⟩;have g1:∀h:decide ((k:Int)>0)=true,0<k:=fun h=>by have:=of_decide_eq_true h;omega
  refine⟨((k-1:Nat):Int),fun _ h=>by have:=g1 h;rw[wrap_i64 (by omega) (by omega)];omega,?_⟩;refine⟨_,fun _ h=>ao cN.enc m.iq (k-1) (by have:=g1 h;omega),?_⟩;refine⟨_,wrap_i64 (by omega) (by omega),?_⟩;exact⟨_,by omega,k+1,_,by omega,rfl,aw,rfl⟩
 ·have h:=of_decide_eq_false h;rw[List.drop_eq_nil_of_le (by omega)]at aw;have aw:w=R:=aw;subst aw;exact⟨rfl,rfl⟩
abbrev XP(s:ae)(r:Int)(l:List ah):List ah:=gS (fun _ m=>Ol m) r 0 s.aa l
theorem Vg(s:ae)(r:Int)(l:List ah)(hw:s.wf)(hm:s.aa.length≤1000000)(hl:l.length≤100000000):
  JJ 60 [.ptr (.ext 0) 0] [bd s r l] (.dE []) [bd s r (XP s r l)]:=by
 refine JJ.intro Tryz.func60 rfl rfl rfl rfl ?_;refine⟨_,_,N8 s r l hm hl (fun i m _ wW o=>Rz i m (hw.aa.2 m wW)),rfl,?_⟩;exact⟨rfl,rfl⟩
def Yt(b:Int)(m:aj):Bool:=rn .i64 m.lX b !=0
theorem RA(b:Int)(m:aj):JJ 201 [.agg m.enc,.ptr (.ext 0) 0] [.pure 3 [.int .i64 b]] (nB (Yt b m)) [.pure 3 [.int .i64 b]]:=by
 refine JJ.intro Tryz.func201 rfl rfl rfl rfl ?_;refine⟨_,rfl,?_⟩;exact⟨rfl,rfl⟩
def Vh(s:ae)(b:Int):Int:=bg (Yt b) s.aa
theorem uo(s:ae)(r:Int)(o:List ah)(b:Int)(hl:s.aa.length≤maxLen):JJ 169 [.ptr (.ext 0) 0,nI b] [bd s r o] (nI (Vh s b)) [bd s r o]:=by
 refine JJ.intro Tryz.func169 rfl rfl rfl rfl ?_;refine⟨_,_,EO s.aa hl (fun m _=>RA b m),rfl,?_⟩;exact⟨rfl,rfl⟩
def bef(s:ae)(b idx:Int):Bool:=decide (0≤Vh s b)&&decide (Vh s b≤idx)
theorem uq(s:ae)(r:Int)(o:List ah)(b idx:Int)(hl:s.aa.length≤maxLen):
  JJ 168 [nI b,.ptr (.ext 0) 0,.ptr (.ext 1) 0] [.mix 138 [.ptr (.ext 2) 0],.pure 3 [.int .i64 idx],bd s r o] (nB (bef s b idx)) [.mix 138 [.ptr (.ext 2) 0],.pure 3 [.int .i64 idx],bd s r o]:=by
 refine XX.intro Tryz.func168 rfl rfl rfl rfl ?_;refine⟨[.no false,.no false,.rc [.ext 1],.ns (.ext 1)],rfl,?_⟩;refine⟨_,_,uo s r o b hl,rfl,⟨rfl,trivial⟩,?_⟩;refine⟨rfl,?_⟩;refine⟨_,ir _ _ _,?_⟩;exact⟨rfl,rfl⟩
def Dd(s:ae)(j idx:Int):Bool:=
 if(bif decide (j≥4)then !bef s 1 idx else false)=true then false
 else if(j==2)=true then bef s 4 idx
 else if(j==5)=true then bef s 4 idx
 else if(j==3)=true then(bif bef s 8 idx then decide (Vh s 2>Vh s 8)else false)
 else if(j==6)=true then(bif bef s 8 idx then decide (Vh s 2>Vh s 8)else false)
 else true
set_option maxHeartbeats 2000000 in
theorem RB(s:ae)(r:Int)(o:List ah)(j idx:Int)(hl:s.aa.length≤maxLen):JJ 114 [.ptr (.ext 0) 0,nI j,nI idx] [bd s r o] (nB (Dd s j idx)) [bd s r o]:=by
 unfold Dd;refine XX.intro Tryz.func114 rfl rfl rfl rfl ?_;refine⟨_,fun _=>uq s r o 1 idx hl,?_⟩;refine ab (fun h=>?_) (fun h=>?_)
 ·rw[if_pos (show(bif decide (j≥4)then !bef s 1 idx else false)=true from h)];exact⟨rfl,rfl⟩
 ·have h:(bif decide (j≥4)then !bef s 1 idx else false)=false:=h;rw[if_neg (by rw[h];simp)];refine ab (fun h2=>?_) (fun h2=>?_)
  ·rw[if_pos (show(j==2)=true from h2)];refine ab (fun _=>?_) (fun h=>by rw[show(j==2)=true from h2]at h;cases h);refine⟨_,_,uq s r o 4 idx hl,rfl,?_⟩;exact⟨rfl,rfl⟩
  ·rw[if_neg (by rw[show(j==2)=false from h2];simp)];refine ab (fun h5=>?_) (fun h5=>?_)
   ·rw[if_pos (show(j==5)=true from h5)];refine⟨_,_,uq s r o 4 idx hl,rfl,?_⟩;exact⟨rfl,rfl⟩
   ·rw[if_neg (by rw[show(j==5)=false from h5];simp)];refine ab (fun h3=>?_) (fun h3=>?_)
    ·rw[if_pos (show(j==3)=true from h3)];refine ab (fun _=>?_) (fun h=>by rw[show(j==3)=true from h3]at h;cases h);refine⟨[.no false,.no false,.no false,.nl,.ra,.nl],rfl,?_⟩;refine⟨_,_,uq s r o 8 idx hl,rfl,?_⟩;refine⟨rfl,rfl,?_⟩;refine⟨rfl,_,fun _=>uo s r o 2 hl,fun l=>IS (l0:= .ext 0) (b:=bd s r o) l rfl,?_⟩;refine⟨rfl,rfl,?_⟩;refine⟨_,fun _=>uo s r o 8 hl,?_⟩;exact⟨rfl,rfl⟩
    ·rw[if_neg (by rw[show(j==3)=false from h3];simp)];refine ab (fun h6=>?_) (fun h6=>?_)
     ·rw[if_pos (show(j==6)=true from h6)];refine⟨[.no false,.no false,.no false,.nl,.ra,.nl],rfl,?_⟩;refine⟨_,_,uq s r o 8 idx hl,rfl,?_⟩;refine⟨rfl,rfl,?_⟩;refine⟨rfl,_,fun _=>uo s r o 2 hl,fun l=>IS (l0:= .ext 0) (b:=bd s r o) l rfl,?_⟩;refine⟨rfl,rfl,?_⟩;refine⟨_,fun _=>uo s r o 8 hl,?_⟩;exact⟨rfl,rfl⟩
     ·rw[if_neg (by rw[show(j==6)=false from h6];simp)];exact⟨rfl,rfl⟩
def Om(m o:aj):Bool:=bif(bif(m.Jump !=0)then(o.Jump !=0)else false)then true else(rn .i64 m.lX o.lX !=0)
theorem RC(m o:aj):JJ 112 [.agg o.enc,.ptr (.ext 0) 0] [.pure 82 m.enc] (nB (Om m o)) [.pure 82 m.enc]:=by
 refine JJ.intro Tryz.func112 rfl rfl rfl rfl ?_;refine⟨_,fun _=>rfl,?_⟩;exact⟨rfl,rfl⟩
def Vi(m:aj):Bool:=
 bif(bif !(decide (0≤m.Jump)&&decide (m.Jump≤6))then true else !(decide (0≤m.lX)&&decide (m.lX≤15)))then true
  else(bif(bif(m.Jump !=0)then true else(m.lX !=0))then(bif(m.bS !=0)then true else(m.cF !=0))else false)
def Oo(s:ae)(i:Nat)(m:aj):Bool:=
 if Vi m=true then true else bif(s.aa.take i).any (Om m)then true else !Dd s m.Jump i
set_option maxHeartbeats 2000000 in
theorem RD(s:ae)(r:Int)(o:List ah)(i:Nat)(m:aj)(hi:i<s.aa.length)(hl:s.aa.length≤maxLen):
  JJ 111 [nI i,.agg m.enc,.ptr (.ext 0) 0] [.mix 138 [.ptr (.ext 1) 0],bd s r o] (nB (Oo s i m)) [.mix 138 [.ptr (.ext 1) 0],bd s r o]:=by
 unfold Oo;refine JJ.intro Tryz.func111 rfl rfl rfl rfl ?_;refine⟨_,ir _ _ _,?_⟩;refine⟨_,fun _=>ir _ _ _,?_⟩;refine ab (fun h=>?_) (fun h=>?_)
 ·rw[if_pos (show Vi m=true from h)];exact⟨rfl,rfl⟩
 ·rw[if_neg (by rw[show Vi m=false from h];simp)];refine⟨(s.aa.take i).map aj.enc,⟨⟨by omega,by rw[List.length_map];omega⟩,by rw[List.map_take];rfl⟩,?_⟩;refine⟨_,_,Nd (s.aa.take i) (by rw[List.length_take];omega) (fun x _=>RC m x),rfl,?_⟩;refine⟨_,fun _=>RB s r o m.Jump i hl,?_⟩;exact⟨rfl,rfl⟩
abbrev XO(s:ae)(r:Int)(l:List ah):List ah:=gS (fun i m=>Oo s i m) r 0 s.aa l
theorem Vj(s:ae)(r:Int)(l:List ah)(hw:s.wf)(hm:s.aa.length≤1000000)(hl:l.length≤100000000):
  JJ 59 [.ptr (.ext 0) 0] [bd s r l] (.dE []) [bd s r (XO s r l)]:=by
 refine JJ.intro Tryz.func59 rfl rfl rfl rfl ?_;refine⟨_,_,SL s r l hm hl (fun i m hi wW o=>RD s r o i m hi hw.aa.1),rfl,?_⟩;exact⟨rfl,rfl⟩
theorem Ht{s:ae}{m c v:Int}(h:0<(cO s m c v).length):0≤m∧m<s.aa.length:=by
 unfold cO at h;split at h
 ·simp at h
 ·rename_i h5;have h5:Ny s m c v=false:=by simpa using h5
  exact ss (qf (su (sx (G4 h5).1).1).1).1
theorem Oq(s:ae)(p:bt)(h:(mF s p).2=true)(hp:0≤p.bc∧p.bc<s.aa.length):0≤(mF s p).1.bc∧(mF s p).1.bc<s.aa.length:=by
 unfold mF at h ⊢;split at h
 ·cases h
 ·rename_i h1;rw[if_neg h1];split at h
  ·rename_i h2;rw[if_pos h2];exact hp
  ·rename_i h2;rw[if_neg h2];split at h
   ·rename_i h3;rw[if_pos h3];exact Ht h3
   ·cases h
def Vk(s:ae)(p:bt)(e:aD):Bool:=
 if(bif(bif !(mF s p).2 then true else !e.CH)then true else((mF s p).1.bc==p.bc))=true then false
 else
  let a:=s.aa.getD p.bc.toNat default
  let b:=s.aa.getD (mF s p).1.bc.toNat default
  bif(bif(bif(bif(bif(a.bS !=0)then true else(a.Jump !=0))then true else(rn .i64 a.lX 12 !=0))then true else(a.cF !=b.cF))then true else b.im)then true else(rn .i64 b.lX 3 !=0)
set_option maxHeartbeats 2000000 in
theorem RE(s:ae)(r:Int)(o:List ah)(p:bt)(e:aD)(hw:e.wf)(hS:KI s)(hp:0≤p.bc∧p.bc<s.aa.length)(hm:s.aa.length≤1000):
  JJ 116 [.agg p.enc,.agg e.enc,.ptr (.ext 0) 0] [.mix 138 [.ptr (.ext 1) 0],bd s r o] (nB (Vk s p e)) [.mix 138 [.ptr (.ext 1) 0],bd s r o]:=by
 have JQ:=Oq s p;unfold Vk;refine JJ.intro Tryz.func116 rfl rfl rfl rfl ?_;refine⟨rfl,?_⟩;refine⟨_,IA s p (by omega) hS.events,?_⟩;obtain⟨q,hq⟩:∃q,mF s p=q:=⟨_,rfl⟩
 rw[hq]at JQ;simp only[hq];refine⟨rfl,?_⟩;refine⟨_,fun _=>Ih e hw.aE.1,?_⟩;refine ab (fun h=>?_) (fun h=>?_)
 ·rw[if_pos (show(bif(bif !q.2 then true else !e.CH)then true else(q.1.bc==p.bc))=true from h)];exact⟨rfl,rfl⟩
 ·have h:(bif(bif !q.2 then true else !e.CH)then true else(q.1.bc==p.bc))=false:=h;rw[if_neg (by rw[h];simp)];have hq2:q.2=true:=by
   rw[aX,aX]at h;simp only[Bool.or_eq_false_iff]at h;simpa using h.1.1
  have vX:=JQ hq2 hp;refine⟨[.no,.no,.no,.no,.no,.no,.no,.no,.no,.ld (.ext 0),.no,.no,.no,.ld (.ext 1),.no,.ld (.own 6),.no,.ro,.no,.no,.st (.own 8)],rfl,?_⟩;refine⟨rfl,?_⟩;refine⟨rfl,?_⟩;refine⟨rfl,?_⟩;refine⟨rfl,?_⟩;refine⟨rfl,?_⟩;refine⟨rfl,?_⟩;refine⟨rfl,?_⟩;refine⟨rfl,?_⟩;refine⟨_,cZ aj.enc s.aa p.bc hp.1 hp.2,?_⟩;refine⟨rfl,?_⟩;refine⟨rfl,?_⟩;refine⟨rfl,?_⟩;refine⟨rfl,?_⟩;refine⟨rfl,?_⟩;refine⟨rfl,?_⟩;refine⟨rfl,?_⟩;refine⟨rfl,?_⟩;refine⟨rfl,?_⟩;refine⟨_,cZ aj.enc s.aa q.1.bc vX.1 vX.2,?_⟩;refine⟨rfl,?_⟩;refine⟨rfl,?_⟩;refine⟨rfl,?_⟩;refine⟨rfl,?_⟩;refine⟨rfl,?_⟩;refine⟨rfl,?_⟩;refine⟨rfl,?_⟩;refine⟨_,fun _=>rfl,?_⟩;refine⟨_,fun _=>rfl,?_⟩;exact⟨rfl,rfl⟩
abbrev XQ(s:ae)(r:Int)(l:List ah):List ah:=zI (fun i k v n=>Vk s (kV i k v n) (s.ev i k v n)) r 0 s.aa l
theorem Vl(s:ae)(r:Int)(l:List ah)(hw:s.wf)(hF:rl s)(hS:KI s)(hl:l.length≤100000000):
  JJ 61 [.ptr (.ext 0) 0] [bd s r l] (.dE []) [bd s r (XQ s r l)]:=by
 have hm1:=hF.ep;refine JJ.intro Tryz.func61 rfl rfl rfl rfl ?_;refine⟨_,_,N9 s r l hF hl (fun i k v n hA o=>RE s r o _ _ (hA.ZM hw) hS (by have:=hA.hi;unfold kV;simp only;omega) (by omega)),rfl,?_⟩;exact⟨rfl,rfl⟩
open Go.Proofs
structure eY where
 pl:bt
 sz:Nat
 cs:List PV
 id:cP
 deriving Inhabited
def FL(st:Nat):List ee→List eY
 | []=> []
 | x::r=>⟨⟨2,0,st,0,0,0,0⟩,3,x.enc,x.ID⟩::FL (st+1) r
def FM:Nat→Nat→List cf→List eY
 | _,_,[]=> []
 | i,st,x::r=>⟨⟨1,i,0,0,0,0,0⟩,6,x.enc,x.ID⟩::(FL st x.aL++FM (i+1) (st+x.aL.length) r)
def z8(i k v:Nat):Nat→List aD→List eY
 | _,[]=> []
 | n,x::r=>⟨⟨4,0,k,i,v,n,0⟩,13,x.enc,x.ID⟩::z8 i k v (n+1) r
def xv(i k:Nat):Nat→List ax→List eY
 | _,[]=> []
 | v,x::r=>z8 i k v 0 x.ak++xv i k (v+1) r
def zJ(i:Nat):Nat→List aI→List eY
 | _,[]=> []
 | k,x::r=>xv i k 0 x.ai++zJ i (k+1) r
def uD:Nat→List aj→List eY
 | _,[]=> []
 | i,x::r=>⟨⟨3,0,0,i,0,0,0⟩,22,x.enc,x.ID⟩::(zJ i 0 x.Cells++uD (i+1) r)
def sP:Nat→List br→List eY
 | _,[]=> []
 | i,x::r=>⟨⟨5,0,0,0,0,0,i⟩,7,x.enc,x.ID⟩::sP (i+1) r
theorem ky{α:Type}{L pre rest:List α}{it:α}(h:L=pre++it::rest):L=(pre++ [it])++rest:=by
 rw[h,List.append_assoc];rfl
theorem kz{p N:Nat}{C:Prop}(h:p≤N)(h1:p<N→C)(h2:p=N→C):C:=by
 rcases Nat.lt_or_eq_of_le h with h | h
 ·exact h1 h
 ·exact h2 h
def bZ(s:ae):List eY:=FM 0 0 s.ay++(uD 0 s.aa++sP 0 s.au)
set_option maxHeartbeats 4000000 in
theorem RF{ids:Nat→List (List PV)}{e1:List (List PV)}{o o2:Obj}{xs:List Value}{De:List er}{Q:Ex→St→Prop}(s:ae)(N:Nat)(hT:∀(pre:List eY) (it:eY) (rest:List eY),bZ s=pre++it::rest→pre.length<N→YY [.yl (.ext 0) [.ptr (.ext 1) 0] xs,.agg it.pl.enc,.ro it.sz it.cs 0] [.ob o,.mix 25 [.own 2 (ids pre.length)],.pure 27 s.enc] (nB true) [.ob o,.mix 25 [.own 2 (ids (pre.length+1))],.pure 27 s.enc])
  (hF:∀(pre:List eY) (it:eY) (rest:List eY),bZ s=pre++it::rest→pre.length=N→YY [.yl (.ext 0) [.ptr (.ext 1) 0] xs,.agg it.pl.enc,.ro it.sz it.cs 0] [.ob o,.mix 25 [.own 2 (ids pre.length)],.pure 27 s.enc] (nB false) [.ob o2,.mix 25 [.own 2 e1],.pure 27 s.enc])
  (Df:N<(bZ s).length→ [.ob o2,.mix 25 [.own 2 e1],.pure 27 s.enc]=De)
  (i k v n:Nat) (c:aI) (x:ax) (pre T:List eY) (hw:s.wf) (hi:i<s.aa.length) (hk:k<(s.aa.getD i default).Cells.length) (hc:c=(s.aa.getD i default).Cells.getD k default) (hv:v<c.ai.length) (hx:x=c.ai.getD v default) (hn:n≤x.ak.length) (PD:x.ak.length≤maxLen)
  (fc:pre.length≤N) (aw:bZ s=pre++(z8 i k v n (x.ak.drop n)++T))
  (hX:n=x.ak.length→ ∀v1:AV,Q (.exit 10) ((St.mk' [(0,.yl (.ext 0) [.ptr (.ext 1) 0] xs),(1,.iX (.ptr (.ext 2) 0)),(6,nI i),(7,nI k),(8,nI v),(66,.p (.sl 22 (s.aa.map aj.enc))),(67,nI s.aa.length),(68,nI i),(90,.p (.sl 2 ((s.aa.getD i default).Cells.map aI.enc))),(91,nI (s.aa.getD i default).Cells.length),(92,nI k),(106,.p (.sl 2 (c.ai.map ax.enc))),(107,nI c.ai.length),(108,nI v),(126,.p (.sl 13 (x.ak.map aD.enc))),(127,nI x.ak.length),(128,nI n)] [(.ext 0,.ob o),(.ext 1,.mix 25 [.own 2 (ids pre.length)]),(.ext 2,.pure 27 s.enc)]).put 129 v1))
  (hR:∀S,AX te [] 3 (fun agf bs=>agf= .dE []∧bs=De) .ret S→Q .ret S)
  (hN:∀S (kW:List eY),n<x.ak.length→kW.length≤N→bZ s=kW++(z8 i k v (n+1) (x.ak.drop (n+1))++T)→S.bM [0,1,6,7,8,66,67,68,90,91,92,106,107,108,126,127,128] [.ext 0,.ext 1,.ext 2]=St.mk' [(0,.yl (.ext 0) [.ptr (.ext 1) 0] xs),(1,.iX (.ptr (.ext 2) 0)),(6,nI i),(7,nI k),(8,nI v),(66,.p (.sl 22 (s.aa.map aj.enc))),(67,nI s.aa.length),(68,nI i),(90,.p (.sl 2 ((s.aa.getD i default).Cells.map aI.enc))),(91,nI (s.aa.getD i default).Cells.length),(92,nI k),(106,.p (.sl 2 (c.ai.map ax.enc))),(107,nI c.ai.length),(108,nI v),(126,.p (.sl 13 (x.ak.map aD.enc))),(127,nI x.ak.length),(128,nI ((n+1:Nat):Int))] [(.ext 0,.ob o),(.ext 1,.mix 25 [.own 2 (ids kW.length)]),(.ext 2,.pure 27 s.enc)]→Q .normal S):
  nA te JJ YY (cX Tryz.f179 [1,1,0,1,0,0,1,1,0,0,1,1,1,0,0,1,1,0,0,1,1,0,0,1,1,0,0,1,1,0,0]) (St.mk' [(0,.yl (.ext 0) [.ptr (.ext 1) 0] xs),(1,.iX (.ptr (.ext 2) 0)),(6,nI i),(7,nI k),(8,nI v),(66,.p (.sl 22 (s.aa.map aj.enc))),(67,nI s.aa.length),(68,nI i),(90,.p (.sl 2 ((s.aa.getD i default).Cells.map aI.enc))),(91,nI (s.aa.getD i default).Cells.length),(92,nI k),(106,.p (.sl 2 (c.ai.map ax.enc))),(107,nI c.ai.length),(108,nI v),(126,.p (.sl 13 (x.ak.map aD.enc))),(127,nI x.ak.length),(128,nI n)] [(.ext 0,.ob o),(.ext 1,.mix 25 [.own 2 (ids pre.length)]),(.ext 2,.pure 27 s.enc)]) Q:=by
 have fw:maxLen≤9223372036854775807:=by decide
 refine ab (fun h=>?_) (fun h=>?_)
 ·have h:=of_decide_eq_true h;have aN:n<x.ak.length:=by omega
  have bW:=ao aj.enc s.aa i hi;have fF:=ao aI.enc _ k hk;have gL:=ao ax.enc c.ai v hv;have ow:=ao aD.enc x.ak n aN;rw[←hc]at fF;rw[←hx]at gL;rw[aF aN]at aw;obtain⟨y,hy⟩:∃y,y=x.ak.getD n default:=⟨_,rfl⟩
  rw[←hy]at ow aw;have aw:bZ s=pre++⟨⟨4,0,k,i,v,n,0⟩,13,y.enc,y.ID⟩::(z8 i k v (n+1) (x.ak.drop (n+1))++T):=aw;refine⟨_,bW,?_⟩;refine⟨_,fF,?_⟩;refine⟨_,gL,?_⟩;refine⟨_,ow,?_⟩;refine kz (N:=N) fc (fun jX=>?_) (fun heq=>?_)
  ·refine⟨_,_,hT pre _ _ aw jX,rfl,?_⟩;refine ab (fun h=>by cases h) (fun _=>?_);refine⟨_,wrap_i64 (by omega) (by omega),?_⟩;refine hN _ (pre++ [_]) aN (by rw[List.length_append];exact jX) (ky aw) ?_
   (try rw[List.length_append])
   rfl
  ·refine⟨_,_,hF pre _ _ aw heq,rfl,?_⟩;refine ab (fun _=>?_) (fun h=>by cases h);have hlen:N<(bZ s).length:=by
    rw[aw,List.length_append,List.length_cons];omega
   exact hR _ ⟨rfl,Df hlen⟩
 ·have h:=of_decide_eq_false h;exact hX (by omega) _
set_option maxHeartbeats 4000000 in
theorem RG{ids:Nat→List (List PV)}{e1:List (List PV)}{o o2:Obj}{xs:List Value}{De:List er}{Q:Ex→St→Prop}(s:ae)(N:Nat)(hT:∀(pre:List eY) (it:eY) (rest:List eY),bZ s=pre++it::rest→pre.length<N→YY [.yl (.ext 0) [.ptr (.ext 1) 0] xs,.agg it.pl.enc,.ro it.sz it.cs 0] [.ob o,.mix 25 [.own 2 (ids pre.length)],.pure 27 s.enc] (nB true) [.ob o,.mix 25 [.own 2 (ids (pre.length+1))],.pure 27 s.enc])
  (hF:∀(pre:List eY) (it:eY) (rest:List eY),bZ s=pre++it::rest→pre.length=N→YY [.yl (.ext 0) [.ptr (.ext 1) 0] xs,.agg it.pl.enc,.ro it.sz it.cs 0] [.ob o,.mix 25 [.own 2 (ids pre.length)],.pure 27 s.enc] (nB false) [.ob o2,.mix 25 [.own 2 e1],.pure 27 s.enc])
  (Df:N<(bZ s).length→ [.ob o2,.mix 25 [.own 2 e1],.pure 27 s.enc]=De)
  (i k v:Nat) (c:aI) (pre T:List eY) (hw:s.wf) (hi:i<s.aa.length) (hk:k<(s.aa.getD i default).Cells.length) (hc:c=(s.aa.getD i default).Cells.getD k default) (hv:v≤c.ai.length) (pk:c.wf)
  (fc:pre.length≤N) (aw:bZ s=pre++(xv i k v (c.ai.drop v)++T))
  (hX:v=c.ai.length→ ∀v1:AV,Q (.exit 8) ((St.mk' [(0,.yl (.ext 0) [.ptr (.ext 1) 0] xs),(1,.iX (.ptr (.ext 2) 0)),(6,nI i),(7,nI k),(66,.p (.sl 22 (s.aa.map aj.enc))),(67,nI s.aa.length),(68,nI i),(90,.p (.sl 2 ((s.aa.getD i default).Cells.map aI.enc))),(91,nI (s.aa.getD i default).Cells.length),(92,nI k),(106,.p (.sl 2 (c.ai.map ax.enc))),(107,nI c.ai.length),(108,nI v)] [(.ext 0,.ob o),(.ext 1,.mix 25 [.own 2 (ids pre.length)]),(.ext 2,.pure 27 s.enc)]).put 109 v1))
  (hR:∀S,AX te [] 3 (fun agf bs=>agf= .dE []∧bs=De) .ret S→Q .ret S)
  (hN:∀S (kW:List eY),v<c.ai.length→kW.length≤N→bZ s=kW++(xv i k (v+1) (c.ai.drop (v+1))++T)→S.bM [0,1,6,7,66,67,68,90,91,92,106,107,108] [.ext 0,.ext 1,.ext 2]=St.mk' [(0,.yl (.ext 0) [.ptr (.ext 1) 0] xs),(1,.iX (.ptr (.ext 2) 0)),(6,nI i),(7,nI k),(66,.p (.sl 22 (s.aa.map aj.enc))),(67,nI s.aa.length),(68,nI i),(90,.p (.sl 2 ((s.aa.getD i default).Cells.map aI.enc))),(91,nI (s.aa.getD i default).Cells.length),(92,nI k),(106,.p (.sl 2 (c.ai.map ax.enc))),(107,nI c.ai.length),(108,nI ((v+1:Nat):Int))] [(.ext 0,.ob o),(.ext 1,.mix 25 [.own 2 (ids kW.length)]),(.ext 2,.pure 27 s.enc)]→Q .normal S):
  nA te JJ YY (cX Tryz.f179 [1,1,0,1,0,0,1,1,0,0,1,1,1,0,0,1,1,0,0,1,1,0,0]) (St.mk' [(0,.yl (.ext 0) [.ptr (.ext 1) 0] xs),(1,.iX (.ptr (.ext 2) 0)),(6,nI i),(7,nI k),(66,.p (.sl 22 (s.aa.map aj.enc))),(67,nI s.aa.length),(68,nI i),(90,.p (.sl 2 ((s.aa.getD i default).Cells.map aI.enc))),(91,nI (s.aa.getD i default).Cells.length),(92,nI k),(106,.p (.sl 2 (c.ai.map ax.enc))),(107,nI c.ai.length),(108,nI v)] [(.ext 0,.ob o),(.ext 1,.mix 25 [.own 2 (ids pre.length)]),(.ext 2,.pure 27 s.enc)]) Q:=by
 have fw:maxLen≤9223372036854775807:=by decide
 have GR:=pk.ai.1;refine ab (fun h=>?_) (fun h=>?_)
 ·have h:=of_decide_eq_true h;have aN:v<c.ai.length:=by omega
  have bW:=ao aj.enc s.aa i hi;have fF:=ao aI.enc _ k hk;have gL:=ao ax.enc c.ai v aN;have Lh:=pk.ai.2 _ (av aN);rw[←hc]at fF;rw[aF aN]at aw;obtain⟨x,hx⟩:∃x,x=c.ai.getD v default:=⟨_,rfl⟩
  rw[←hx]at gL aw Lh;have PD:=Lh.ak.1;have aw:bZ s=pre++((z8 i k v 0 x.ak++xv i k (v+1) (c.ai.drop (v+1)))++T):=aw;rw[List.append_assoc]at aw;refine⟨_,bW,?_⟩;refine⟨_,fF,?_⟩;refine⟨_,gL,?_⟩;refine⟨_,al _ _,?_⟩;refine⟨[0,1,6,7,8,66,67,68,90,91,92,106,107,108,126,127,128],[.ext 0,.ext 1,.ext 2],fun q S=>∃(n:Nat) (pre:List eY),n≤x.ak.length∧q=x.ak.length-n∧pre.length≤N∧bZ s=pre++(z8 i k v n (x.ak.drop n)++(xv i k (v+1) (c.ai.drop (v+1))++T))∧S=St.mk' [(0,.yl (.ext 0) [.ptr (.ext 1) 0] xs),(1,.iX (.ptr (.ext 2) 0)),(6,nI i),(7,nI k),(8,nI v),(66,.p (.sl 22 (s.aa.map aj.enc))),(67,nI s.aa.length),(68,nI i),(90,.p (.sl 2 ((s.aa.getD i default).Cells.map aI.enc))),(91,nI (s.aa.getD i default).Cells.length),(92,nI k),(106,.p (.sl 2 (c.ai.map ax.enc))),(107,nI c.ai.length),(108,nI v),(126,.p (.sl 13 (x.ak.map aD.enc))),(127,nI x.ak.length),(128,nI n)] [(.ext 0,.ob o),(.ext 1,.mix 25 [.own 2 (ids pre.length)]),(.ext 2,.pure 27 s.enc)],
   ⟨_,0,pre,by omega,rfl,fc,aw,rfl⟩,?_⟩
  rintro q S ⟨n,pre,hn,rfl,fc,aw,rfl⟩;refine RF s N hT hF Df i k v n c x pre _ hw hi hk hc aN hx hn PD fc aw (fun he v1=>?_) hR (fun S kW fl h5 h6 h7=>?_)
  ·rw[List.drop_eq_nil_of_le (by omega)]at aw;refine⟨_,wrap_i64 (by omega) (by omega),?_⟩;exact hN _ pre aN fc aw rfl
  ·exact⟨x.ak.length-(n+1),by omega,n+1,kW,by omega,rfl,h5,h6,h7⟩
 ·have h:=of_decide_eq_false h;exact hX (by omega) _
set_option maxHeartbeats 8000000 in
theorem Vm{ids:Nat→List (List PV)}{e1:List (List PV)}{o o2:Obj}{xs:List Value}{De:List er}(s:ae)(N:Nat)(hT:∀(pre:List eY) (it:eY) (rest:List eY),bZ s=pre++it::rest→pre.length<N→YY [.yl (.ext 0) [.ptr (.ext 1) 0] xs,.agg it.pl.enc,.ro it.sz it.cs 0] [.ob o,.mix 25 [.own 2 (ids pre.length)],.pure 27 s.enc] (nB true) [.ob o,.mix 25 [.own 2 (ids (pre.length+1))],.pure 27 s.enc])
  (hF:∀(pre:List eY) (it:eY) (rest:List eY),bZ s=pre++it::rest→pre.length=N→YY [.yl (.ext 0) [.ptr (.ext 1) 0] xs,.agg it.pl.enc,.ro it.sz it.cs 0] [.ob o,.mix 25 [.own 2 (ids pre.length)],.pure 27 s.enc] (nB false) [.ob o2,.mix 25 [.own 2 e1],.pure 27 s.enc])
  (Df:N<(bZ s).length→ [.ob o2,.mix 25 [.own 2 e1],.pure 27 s.enc]=De)
  (hE:N=(bZ s).length→ [.ob o,.mix 25 [.own 2 (ids N)],.pure 27 s.enc]=De) (hw:s.wf) (hNl:N≤(bZ s).length) (iH:s.ay.length≤1000) (kl:∀p∈s.ay,p.aL.length≤1000):
  JJ 179 [.yl (.ext 0) [.ptr (.ext 1) 0] xs,.iX (.ptr (.ext 2) 0)] [.ob o,.mix 25 [.own 2 (ids 0)],.pure 27 s.enc] (.dE []) De:=by
 have fw:maxLen≤9223372036854775807:=by decide
 have j5:=hw.aa.1;have abG:=hw.au.1;refine XX.intro Tryz.func179 rfl rfl rfl rfl ?_;refine⟨_,al _ _,?_⟩;refine⟨[0,1,3,14,15,16],[.ext 0,.ext 1,.ext 2],fun q S=>∃(i st:Nat) (pre:List eY),i≤s.ay.length∧q=s.ay.length-i∧st≤1000*i∧pre.length≤N∧bZ s=pre++(FM i st (s.ay.drop i)++(uD 0 s.aa++sP 0 s.au))∧S=St.mk' [(0,.yl (.ext 0) [.ptr (.ext 1) 0] xs),(1,.iX (.ptr (.ext 2) 0)),(3,nI st),(14,.p (.sl 6 (s.ay.map cf.enc))),(15,nI s.ay.length),(16,nI i)] [(.ext 0,.ob o),(.ext 1,.mix 25 [.own 2 (ids pre.length)]),(.ext 2,.pure 27 s.enc)],
  ⟨_,0,0,[],by omega,rfl,by omega,Nat.zero_le _,rfl,rfl⟩,?_⟩
 rintro q S ⟨i,st,pre,hi,rfl,j3,fc,aw,rfl⟩;refine ab (fun h=>?_) (fun h=>?_)
 ·have h:=of_decide_eq_true h;have aN:i<s.ay.length:=by omega
  have bW:=ao cf.enc s.ay i aN;have cV:=av aN;rw[aF aN]at aw;obtain⟨p,hp⟩:∃p,p=s.ay.getD i default:=⟨_,rfl⟩
  rw[←hp]at bW cV aw;have kC:=kl p cV;have aw:bZ s=pre++⟨⟨1,i,0,0,0,0,0⟩,6,p.enc,p.ID⟩::((FL st p.aL++FM (i+1) (st+p.aL.length) (s.ay.drop (i+1)))++(uD 0 s.aa++sP 0 s.au)):=aw;refine⟨_,bW,?_⟩;refine kz (N:=N) fc (fun jX=>?_) (fun heq=>?_)
  ·refine⟨_,_,hT pre _ _ aw jX,rfl,?_⟩;refine ab (fun h=>by cases h) (fun _=>?_);have zf:=ky aw;have mj:(pre++ [(⟨⟨1,i,0,0,0,0,0⟩,6,p.enc,p.ID⟩:eY)]).length=pre.length+1:=by rw[List.length_append];rfl
   rw[List.append_assoc (FL _ _)]at zf;refine⟨_,bW,?_⟩;refine⟨_,al _ _,?_⟩;refine⟨[0,1,3,4,14,15,16,38,39,40],[.ext 0,.ext 1,.ext 2],fun q S=>∃(j Dg:Nat) (pre:List eY),j≤p.aL.length∧q=p.aL.length-j∧Dg=st+j∧pre.length≤N∧bZ s=pre++(FL Dg (p.aL.drop j)++(FM (i+1) (st+p.aL.length) (s.ay.drop (i+1))++(uD 0 s.aa++sP 0 s.au)))∧S=St.mk' [(0,.yl (.ext 0) [.ptr (.ext 1) 0] xs),(1,.iX (.ptr (.ext 2) 0)),(3,nI Dg),(4,nI i),(14,.p (.sl 6 (s.ay.map cf.enc))),(15,nI s.ay.length),(16,nI i),(38,.p (.sl 3 (p.aL.map ee.enc))),(39,nI p.aL.length),(40,nI j)] [(.ext 0,.ob o),(.ext 1,.mix 25 [.own 2 (ids pre.length)]),(.ext 2,.pure 27 s.enc)],
    ⟨_,0,st,_,by omega,rfl,by omega,by rw[mj];exact jX,zf,by(try rw[mj]);rfl⟩,?_⟩
   rintro q S ⟨j,Dg,pre,hj,rfl,abH,fc,aw,rfl⟩;refine ab (fun h=>?_) (fun h=>?_)
   ·have h:=of_decide_eq_true h;have nr:j<p.aL.length:=by omega
    have Ot:=ao ee.enc p.aL j nr;rw[aF nr]at aw;obtain⟨y,hy⟩:∃y,y=p.aL.getD j default:=⟨_,rfl⟩
    rw[←hy]at Ot aw;have aw:bZ s=pre++⟨⟨2,0,Dg,0,0,0,0⟩,3,y.enc,y.ID⟩::(FL (Dg+1) (p.aL.drop (j+1))++(FM (i+1) (st+p.aL.length) (s.ay.drop (i+1))++(uD 0 s.aa++sP 0 s.au))):=aw;refine⟨_,bW,?_⟩;refine⟨_,Ot,?_⟩;refine kz (N:=N) fc (fun jX=>?_) (fun heq=>?_)
    ·refine⟨_,_,hT pre _ _ aw jX,rfl,?_⟩;refine ab (fun h=>by cases h) (fun _=>?_);refine⟨((Dg+1:Nat):Int),by rw[wrap_i64 (by omega) (by omega)];omega,?_⟩;refine⟨_,wrap_i64 (by omega) (by omega),?_⟩;refine⟨p.aL.length-(j+1),by omega,j+1,Dg+1,pre++ [_],by omega,rfl,by omega,by rw[List.length_append];exact jX,ky aw,?_⟩
     (try rw[List.length_append])
     rfl
    ·refine⟨_,_,hF pre _ _ aw heq,rfl,?_⟩;refine ab (fun _=>?_) (fun h=>by cases h);have hlen:N<(bZ s).length:=by
      rw[aw,List.length_append,List.length_cons];omega
     exact⟨rfl,Df hlen⟩
   ·have h:=of_decide_eq_false h;rw[List.drop_eq_nil_of_le (by omega)]at aw;refine⟨_,wrap_i64 (by omega) (by omega),?_⟩;have K8:Dg=st+p.aL.length:=by omega
    subst K8;exact⟨s.ay.length-(i+1),by omega,i+1,_,pre,by omega,rfl,by omega,fc,aw,rfl⟩
  ·refine⟨_,_,hF pre _ _ aw heq,rfl,?_⟩;refine ab (fun _=>?_) (fun h=>by cases h);have hlen:N<(bZ s).length:=by
    rw[aw,List.length_append,List.length_cons];omega
   exact⟨rfl,Df hlen⟩
 ·have h:=of_decide_eq_false h;rw[List.drop_eq_nil_of_le (by omega)]at aw;refine⟨_,al _ _,?_⟩;refine⟨[0,1,66,67,68],[.ext 0,.ext 1,.ext 2],fun q S=>∃(i:Nat) (pre:List eY),i≤s.aa.length∧q=s.aa.length-i∧pre.length≤N∧bZ s=pre++(uD i (s.aa.drop i)++sP 0 s.au)∧S=St.mk' [(0,.yl (.ext 0) [.ptr (.ext 1) 0] xs),(1,.iX (.ptr (.ext 2) 0)),(66,.p (.sl 22 (s.aa.map aj.enc))),(67,nI s.aa.length),(68,nI i)] [(.ext 0,.ob o),(.ext 1,.mix 25 [.own 2 (ids pre.length)]),(.ext 2,.pure 27 s.enc)],
   ⟨_,0,pre,by omega,rfl,fc,aw,rfl⟩,?_⟩
  rintro q S ⟨i,pre,hi,rfl,fc,aw,rfl⟩;refine ab (fun h=>?_) (fun h=>?_)
  ·have h:=of_decide_eq_true h;have aN:i<s.aa.length:=by omega
   have bW:=ao aj.enc s.aa i aN;have sO:=hw.aa.2 _ (av aN);have dP:=sO.Cells.1;rw[aF aN]at aw;have aw:bZ s=pre++⟨⟨3,0,0,i,0,0,0⟩,22,(s.aa.getD i default).enc,(s.aa.getD i default).ID⟩::((zJ i 0 (s.aa.getD i default).Cells++uD (i+1) (s.aa.drop (i+1)))++sP 0 s.au):=aw;refine⟨_,bW,?_⟩;refine kz (N:=N) fc (fun jX=>?_) (fun heq=>?_)
   ·refine⟨_,_,hT pre _ _ aw jX,rfl,?_⟩;refine ab (fun h=>by cases h) (fun _=>?_);have zf:=ky aw;have mj:(pre++ [(⟨⟨3,0,0,i,0,0,0⟩,22,(s.aa.getD i default).enc,(s.aa.getD i default).ID⟩:eY)]).length=pre.length+1:=by rw[List.length_append];rfl
    rw[List.append_assoc (zJ _ _ _)]at zf;refine⟨_,bW,?_⟩;refine⟨_,al _ _,?_⟩;refine⟨[0,1,6,66,67,68,90,91,92],[.ext 0,.ext 1,.ext 2],fun q S=>∃(k:Nat) (pre:List eY),k≤(s.aa.getD i default).Cells.length∧q=(s.aa.getD i default).Cells.length-k∧pre.length≤N∧bZ s=pre++(zJ i k ((s.aa.getD i default).Cells.drop k)++(uD (i+1) (s.aa.drop (i+1))++sP 0 s.au))∧S=St.mk' [(0,.yl (.ext 0) [.ptr (.ext 1) 0] xs),(1,.iX (.ptr (.ext 2) 0)),(6,nI i),(66,.p (.sl 22 (s.aa.map aj.enc))),(67,nI s.aa.length),(68,nI i),(90,.p (.sl 2 ((s.aa.getD i default).Cells.map aI.enc))),(91,nI (s.aa.getD i default).Cells.length),(92,nI k)] [(.ext 0,.ob o),(.ext 1,.mix 25 [.own 2 (ids pre.length)]),(.ext 2,.pure 27 s.enc)],
     ⟨_,0,_,by omega,rfl,by rw[mj];exact jX,zf,by(try rw[mj]);rfl⟩,?_⟩
    rintro q S ⟨k,pre,hk,rfl,fc,aw,rfl⟩;refine ab (fun h=>?_) (fun h=>?_)
    ·have h:=of_decide_eq_true h;have Dh:k<(s.aa.getD i default).Cells.length:=by omega
     have fF:=ao aI.enc _ k Dh;have pk:=sO.Cells.2 _ (av Dh);rw[aF Dh]at aw;obtain⟨c,hc⟩:∃c,c=(s.aa.getD i default).Cells.getD k default:=⟨_,rfl⟩
     rw[←hc]at fF pk aw;have aw:bZ s=pre++((xv i k 0 c.ai++zJ i (k+1) ((s.aa.getD i default).Cells.drop (k+1)))++(uD (i+1) (s.aa.drop (i+1))++sP 0 s.au)):=aw;rw[List.append_assoc]at aw;refine⟨_,bW,?_⟩;refine⟨_,fF,?_⟩;refine⟨_,al _ _,?_⟩;refine⟨[0,1,6,7,66,67,68,90,91,92,106,107,108],[.ext 0,.ext 1,.ext 2],fun q S=>∃(v:Nat) (pre:List eY),v≤c.ai.length∧q=c.ai.length-v∧pre.length≤N∧bZ s=pre++(xv i k v (c.ai.drop v)++(zJ i (k+1) ((s.aa.getD i default).Cells.drop (k+1))++(uD (i+1) (s.aa.drop (i+1))++sP 0 s.au)))∧S=St.mk' [(0,.yl (.ext 0) [.ptr (.ext 1) 0] xs),(1,.iX (.ptr (.ext 2) 0)),(6,nI i),(7,nI k),(66,.p (.sl 22 (s.aa.map aj.enc))),(67,nI s.aa.length),(68,nI i),(90,.p (.sl 2 ((s.aa.getD i default).Cells.map aI.enc))),(91,nI (s.aa.getD i default).Cells.length),(92,nI k),(106,.p (.sl 2 (c.ai.map ax.enc))),(107,nI c.ai.length),(108,nI v)] [(.ext 0,.ob o),(.ext 1,.mix 25 [.own 2 (ids pre.length)]),(.ext 2,.pure 27 s.enc)],
      ⟨_,0,pre,by omega,rfl,fc,aw,rfl⟩,?_⟩
     rintro q S ⟨v,pre,hv,rfl,fc,aw,rfl⟩;refine RG s N hT hF Df i k v c pre _ hw aN Dh hc hv pk fc aw (fun he v1=>?_) (fun S h=>h) (fun S kW fl h5 h6 h7=>?_)
     ·rw[List.drop_eq_nil_of_le (by omega)]at aw;refine⟨_,wrap_i64 (by omega) (by omega),?_⟩;exact⟨(s.aa.getD i default).Cells.length-(k+1),by omega,k+1,pre,by omega,rfl,fc,aw,rfl⟩
     ·exact⟨c.ai.length-(v+1),by omega,v+1,kW,by omega,rfl,h5,h6,h7⟩
    ·have h:=of_decide_eq_false h;rw[List.drop_eq_nil_of_le (by omega)]at aw;refine⟨_,wrap_i64 (by omega) (by omega),?_⟩;exact⟨s.aa.length-(i+1),by omega,i+1,pre,by omega,rfl,fc,aw,rfl⟩
   ·refine⟨_,_,hF pre _ _ aw heq,rfl,?_⟩;refine ab (fun _=>?_) (fun h=>by cases h);have hlen:N<(bZ s).length:=by
     rw[aw,List.length_append,List.length_cons];omega
    exact⟨rfl,Df hlen⟩
  ·have h:=of_decide_eq_false h;rw[List.drop_eq_nil_of_le (by omega)]at aw;refine⟨_,al _ _,?_⟩;refine⟨[0,1,165,166,167],[.ext 0,.ext 1,.ext 2],fun q S=>∃(i:Nat) (pre:List eY),i≤s.au.length∧q=s.au.length-i∧pre.length≤N∧bZ s=pre++sP i (s.au.drop i)∧S=St.mk' [(0,.yl (.ext 0) [.ptr (.ext 1) 0] xs),(1,.iX (.ptr (.ext 2) 0)),(165,.p (.sl 7 (s.au.map br.enc))),(166,nI s.au.length),(167,nI i)] [(.ext 0,.ob o),(.ext 1,.mix 25 [.own 2 (ids pre.length)]),(.ext 2,.pure 27 s.enc)],
    ⟨_,0,pre,by omega,rfl,fc,aw,rfl⟩,?_⟩
   rintro q S ⟨i,pre,hi,rfl,fc,aw,rfl⟩;refine ab (fun h=>?_) (fun h=>?_)
   ·have h:=of_decide_eq_true h;have aN:i<s.au.length:=by omega
    have bW:=ao br.enc s.au i aN;rw[aF aN]at aw;obtain⟨y,hy⟩:∃y,y=s.au.getD i default:=⟨_,rfl⟩
    rw[←hy]at bW aw;have aw:bZ s=pre++⟨⟨5,0,0,0,0,0,i⟩,7,y.enc,y.ID⟩::sP (i+1) (s.au.drop (i+1)):=aw;refine⟨_,bW,?_⟩;refine kz (N:=N) fc (fun jX=>?_) (fun heq=>?_)
    ·refine⟨_,_,hT pre _ _ aw jX,rfl,?_⟩;refine ab (fun h=>by cases h) (fun _=>?_);refine⟨_,wrap_i64 (by omega) (by omega),?_⟩;refine⟨s.au.length-(i+1),by omega,i+1,pre++ [_],by omega,rfl,by rw[List.length_append];exact jX,ky aw,?_⟩
     (try rw[List.length_append])
     rfl
    ·refine⟨_,_,hF pre _ _ aw heq,rfl,?_⟩;refine ab (fun _=>?_) (fun h=>by cases h);have hlen:N<(bZ s).length:=by
      rw[aw,List.length_append,List.length_cons];omega
     exact⟨rfl,Df hlen⟩
   ·have h:=of_decide_eq_false h;rw[List.drop_eq_nil_of_le (by omega)]at aw;have aw:bZ s=pre++ []:=aw;rw[List.append_nil]at aw;rw[aw]at hNl hE;have hNe:N=pre.length:=by omega
    subst hNe;exact⟨rfl,hE rfl⟩
set_option maxHeartbeats 4000000 in
theorem RH{c1 p1 q1 e1 e2:List PV}{o o2:Obj}{xs:List Value}{De:List er}{Q:Ex→St→Prop}(s:ae)(N:Nat)(hT:∀(pre:List eY) (it:eY) (rest:List eY),bZ s=pre++it::rest→pre.length<N→YY [.yl (.ext 0) [.ptr (.ext 1) 0,.ptr (.ext 2) 0,.ptr (.ext 3) 0] xs,.agg it.pl.enc,.ro it.sz it.cs 0] [.ob o,.pure 70 c1,.pure 174 p1,.pure 4 q1,.pure 27 s.enc] (nB true) [.ob o,.pure 70 c1,.pure 174 p1,.pure 4 q1,.pure 27 s.enc])
  (hF:∀(pre:List eY) (it:eY) (rest:List eY),bZ s=pre++it::rest→pre.length=N→YY [.yl (.ext 0) [.ptr (.ext 1) 0,.ptr (.ext 2) 0,.ptr (.ext 3) 0] xs,.agg it.pl.enc,.ro it.sz it.cs 0] [.ob o,.pure 70 c1,.pure 174 p1,.pure 4 q1,.pure 27 s.enc] (nB false) [.ob o2,.pure 70 c1,.pure 174 e1,.pure 4 e2,.pure 27 s.enc])
  (Df:N<(bZ s).length→ [.ob o2,.pure 70 c1,.pure 174 e1,.pure 4 e2,.pure 27 s.enc]=De)
  (i k v n:Nat) (c:aI) (x:ax) (pre T:List eY) (hw:s.wf) (hi:i<s.aa.length) (hk:k<(s.aa.getD i default).Cells.length) (hc:c=(s.aa.getD i default).Cells.getD k default) (hv:v<c.ai.length) (hx:x=c.ai.getD v default) (hn:n≤x.ak.length) (PD:x.ak.length≤maxLen)
  (fc:pre.length≤N) (aw:bZ s=pre++(z8 i k v n (x.ak.drop n)++T))
  (hX:n=x.ak.length→ ∀v1:AV,Q (.exit 10) ((St.mk' [(0,.yl (.ext 0) [.ptr (.ext 1) 0,.ptr (.ext 2) 0,.ptr (.ext 3) 0] xs),(1,.iX (.ptr (.ext 4) 0)),(6,nI i),(7,nI k),(8,nI v),(66,.p (.sl 22 (s.aa.map aj.enc))),(67,nI s.aa.length),(68,nI i),(90,.p (.sl 2 ((s.aa.getD i default).Cells.map aI.enc))),(91,nI (s.aa.getD i default).Cells.length),(92,nI k),(106,.p (.sl 2 (c.ai.map ax.enc))),(107,nI c.ai.length),(108,nI v),(126,.p (.sl 13 (x.ak.map aD.enc))),(127,nI x.ak.length),(128,nI n)] [(.ext 0,.ob o),(.ext 1,.pure 70 c1),(.ext 2,.pure 174 p1),(.ext 3,.pure 4 q1),(.ext 4,.pure 27 s.enc)]).put 129 v1))
  (hR:∀S,AX te [] 5 (fun agf bs=>agf= .dE []∧bs=De) .ret S→Q .ret S)
  (hN:∀S (kW:List eY),n<x.ak.length→kW.length≤N→bZ s=kW++(z8 i k v (n+1) (x.ak.drop (n+1))++T)→S.bM [0,1,6,7,8,66,67,68,90,91,92,106,107,108,126,127,128] [.ext 0,.ext 1,.ext 2,.ext 3,.ext 4]=St.mk' [(0,.yl (.ext 0) [.ptr (.ext 1) 0,.ptr (.ext 2) 0,.ptr (.ext 3) 0] xs),(1,.iX (.ptr (.ext 4) 0)),(6,nI i),(7,nI k),(8,nI v),(66,.p (.sl 22 (s.aa.map aj.enc))),(67,nI s.aa.length),(68,nI i),(90,.p (.sl 2 ((s.aa.getD i default).Cells.map aI.enc))),(91,nI (s.aa.getD i default).Cells.length),(92,nI k),(106,.p (.sl 2 (c.ai.map ax.enc))),(107,nI c.ai.length),(108,nI v),(126,.p (.sl 13 (x.ak.map aD.enc))),(127,nI x.ak.length),(128,nI ((n+1:Nat):Int))] [(.ext 0,.ob o),(.ext 1,.pure 70 c1),(.ext 2,.pure 174 p1),(.ext 3,.pure 4 q1),(.ext 4,.pure 27 s.enc)]→Q .normal S):
  nA te JJ YY (cX Tryz.f179 [1,1,0,1,0,0,1,1,0,0,1,1,1,0,0,1,1,0,0,1,1,0,0,1,1,0,0,1,1,0,0]) (St.mk' [(0,.yl (.ext 0) [.ptr (.ext 1) 0,.ptr (.ext 2) 0,.ptr (.ext 3) 0] xs),(1,.iX (.ptr (.ext 4) 0)),(6,nI i),(7,nI k),(8,nI v),(66,.p (.sl 22 (s.aa.map aj.enc))),(67,nI s.aa.length),(68,nI i),(90,.p (.sl 2 ((s.aa.getD i default).Cells.map aI.enc))),(91,nI (s.aa.getD i default).Cells.length),(92,nI k),(106,.p (.sl 2 (c.ai.map ax.enc))),(107,nI c.ai.length),(108,nI v),(126,.p (.sl 13 (x.ak.map aD.enc))),(127,nI x.ak.length),(128,nI n)] [(.ext 0,.ob o),(.ext 1,.pure 70 c1),(.ext 2,.pure 174 p1),(.ext 3,.pure 4 q1),(.ext 4,.pure 27 s.enc)]) Q:=by
 have fw:maxLen≤9223372036854775807:=by decide
 refine ab (fun h=>?_) (fun h=>?_)
 ·have h:=of_decide_eq_true h;have aN:n<x.ak.length:=by omega
  have bW:=ao aj.enc s.aa i hi;have fF:=ao aI.enc _ k hk;have gL:=ao ax.enc c.ai v hv;have ow:=ao aD.enc x.ak n aN;rw[←hc]at fF;rw[←hx]at gL;rw[aF aN]at aw;obtain⟨y,hy⟩:∃y,y=x.ak.getD n default:=⟨_,rfl⟩
  rw[←hy]at ow aw;have aw:bZ s=pre++⟨⟨4,0,k,i,v,n,0⟩,13,y.enc,y.ID⟩::(z8 i k v (n+1) (x.ak.drop (n+1))++T):=aw;refine⟨_,bW,?_⟩;refine⟨_,fF,?_⟩;refine⟨_,gL,?_⟩;refine⟨_,ow,?_⟩;refine kz (N:=N) fc (fun jX=>?_) (fun heq=>?_)
  ·refine⟨_,_,hT pre _ _ aw jX,rfl,?_⟩;refine ab (fun h=>by cases h) (fun _=>?_);refine⟨_,wrap_i64 (by omega) (by omega),?_⟩;refine hN _ (pre++ [_]) aN (by rw[List.length_append];exact jX) (ky aw) ?_
   (try rw[List.length_append])
   rfl
  ·refine⟨_,_,hF pre _ _ aw heq,rfl,?_⟩;refine ab (fun _=>?_) (fun h=>by cases h);have hlen:N<(bZ s).length:=by
    rw[aw,List.length_append,List.length_cons];omega
   exact hR _ ⟨rfl,Df hlen⟩
 ·have h:=of_decide_eq_false h;exact hX (by omega) _
set_option maxHeartbeats 4000000 in
theorem RI{c1 p1 q1 e1 e2:List PV}{o o2:Obj}{xs:List Value}{De:List er}{Q:Ex→St→Prop}(s:ae)(N:Nat)(hT:∀(pre:List eY) (it:eY) (rest:List eY),bZ s=pre++it::rest→pre.length<N→YY [.yl (.ext 0) [.ptr (.ext 1) 0,.ptr (.ext 2) 0,.ptr (.ext 3) 0] xs,.agg it.pl.enc,.ro it.sz it.cs 0] [.ob o,.pure 70 c1,.pure 174 p1,.pure 4 q1,.pure 27 s.enc] (nB true) [.ob o,.pure 70 c1,.pure 174 p1,.pure 4 q1,.pure 27 s.enc])
  (hF:∀(pre:List eY) (it:eY) (rest:List eY),bZ s=pre++it::rest→pre.length=N→YY [.yl (.ext 0) [.ptr (.ext 1) 0,.ptr (.ext 2) 0,.ptr (.ext 3) 0] xs,.agg it.pl.enc,.ro it.sz it.cs 0] [.ob o,.pure 70 c1,.pure 174 p1,.pure 4 q1,.pure 27 s.enc] (nB false) [.ob o2,.pure 70 c1,.pure 174 e1,.pure 4 e2,.pure 27 s.enc])
  (Df:N<(bZ s).length→ [.ob o2,.pure 70 c1,.pure 174 e1,.pure 4 e2,.pure 27 s.enc]=De)
  (i k v:Nat) (c:aI) (pre T:List eY) (hw:s.wf) (hi:i<s.aa.length) (hk:k<(s.aa.getD i default).Cells.length) (hc:c=(s.aa.getD i default).Cells.getD k default) (hv:v≤c.ai.length) (pk:c.wf)
  (fc:pre.length≤N) (aw:bZ s=pre++(xv i k v (c.ai.drop v)++T))
  (hX:v=c.ai.length→ ∀v1:AV,Q (.exit 8) ((St.mk' [(0,.yl (.ext 0) [.ptr (.ext 1) 0,.ptr (.ext 2) 0,.ptr (.ext 3) 0] xs),(1,.iX (.ptr (.ext 4) 0)),(6,nI i),(7,nI k),(66,.p (.sl 22 (s.aa.map aj.enc))),(67,nI s.aa.length),(68,nI i),(90,.p (.sl 2 ((s.aa.getD i default).Cells.map aI.enc))),(91,nI (s.aa.getD i default).Cells.length),(92,nI k),(106,.p (.sl 2 (c.ai.map ax.enc))),(107,nI c.ai.length),(108,nI v)] [(.ext 0,.ob o),(.ext 1,.pure 70 c1),(.ext 2,.pure 174 p1),(.ext 3,.pure 4 q1),(.ext 4,.pure 27 s.enc)]).put 109 v1))
  (hR:∀S,AX te [] 5 (fun agf bs=>agf= .dE []∧bs=De) .ret S→Q .ret S)
  (hN:∀S (kW:List eY),v<c.ai.length→kW.length≤N→bZ s=kW++(xv i k (v+1) (c.ai.drop (v+1))++T)→S.bM [0,1,6,7,66,67,68,90,91,92,106,107,108] [.ext 0,.ext 1,.ext 2,.ext 3,.ext 4]=St.mk' [(0,.yl (.ext 0) [.ptr (.ext 1) 0,.ptr (.ext 2) 0,.ptr (.ext 3) 0] xs),(1,.iX (.ptr (.ext 4) 0)),(6,nI i),(7,nI k),(66,.p (.sl 22 (s.aa.map aj.enc))),(67,nI s.aa.length),(68,nI i),(90,.p (.sl 2 ((s.aa.getD i default).Cells.map aI.enc))),(91,nI (s.aa.getD i default).Cells.length),(92,nI k),(106,.p (.sl 2 (c.ai.map ax.enc))),(107,nI c.ai.length),(108,nI ((v+1:Nat):Int))] [(.ext 0,.ob o),(.ext 1,.pure 70 c1),(.ext 2,.pure 174 p1),(.ext 3,.pure 4 q1),(.ext 4,.pure 27 s.enc)]→Q .normal S):
  nA te JJ YY (cX Tryz.f179 [1,1,0,1,0,0,1,1,0,0,1,1,1,0,0,1,1,0,0,1,1,0,0]) (St.mk' [(0,.yl (.ext 0) [.ptr (.ext 1) 0,.ptr (.ext 2) 0,.ptr (.ext 3) 0] xs),(1,.iX (.ptr (.ext 4) 0)),(6,nI i),(7,nI k),(66,.p (.sl 22 (s.aa.map aj.enc))),(67,nI s.aa.length),(68,nI i),(90,.p (.sl 2 ((s.aa.getD i default).Cells.map aI.enc))),(91,nI (s.aa.getD i default).Cells.length),(92,nI k),(106,.p (.sl 2 (c.ai.map ax.enc))),(107,nI c.ai.length),(108,nI v)] [(.ext 0,.ob o),(.ext 1,.pure 70 c1),(.ext 2,.pure 174 p1),(.ext 3,.pure 4 q1),(.ext 4,.pure 27 s.enc)]) Q:=by
 have fw:maxLen≤9223372036854775807:=by decide
 have GR:=pk.ai.1;refine ab (fun h=>?_) (fun h=>?_)
 ·have h:=of_decide_eq_true h;have aN:v<c.ai.length:=by omega
  have bW:=ao aj.enc s.aa i hi;have fF:=ao aI.enc _ k hk;have gL:=ao ax.enc c.ai v aN;have Lh:=pk.ai.2 _ (av aN);rw[←hc]at fF;rw[aF aN]at aw;obtain⟨x,hx⟩:∃x,x=c.ai.getD v default:=⟨_,rfl⟩
  rw[←hx]at gL aw Lh;have PD:=Lh.ak.1;have aw:bZ s=pre++((z8 i k v 0 x.ak++xv i k (v+1) (c.ai.drop (v+1)))++T):=aw;rw[List.append_assoc]at aw;refine⟨_,bW,?_⟩;refine⟨_,fF,?_⟩;refine⟨_,gL,?_⟩;refine⟨_,al _ _,?_⟩;refine⟨[0,1,6,7,8,66,67,68,90,91,92,106,107,108,126,127,128],[.ext 0,.ext 1,.ext 2,.ext 3,.ext 4],fun q S=>∃(n:Nat) (pre:List eY),n≤x.ak.length∧q=x.ak.length-n∧pre.length≤N∧bZ s=pre++(z8 i k v n (x.ak.drop n)++(xv i k (v+1) (c.ai.drop (v+1))++T))∧S=St.mk' [(0,.yl (.ext 0) [.ptr (.ext 1) 0,.ptr (.ext 2) 0,.ptr (.ext 3) 0] xs),(1,.iX (.ptr (.ext 4) 0)),(6,nI i),(7,nI k),(8,nI v),(66,.p (.sl 22 (s.aa.map aj.enc))),(67,nI s.aa.length),(68,nI i),(90,.p (.sl 2 ((s.aa.getD i default).Cells.map aI.enc))),(91,nI (s.aa.getD i default).Cells.length),(92,nI k),(106,.p (.sl 2 (c.ai.map ax.enc))),(107,nI c.ai.length),(108,nI v),(126,.p (.sl 13 (x.ak.map aD.enc))),(127,nI x.ak.length),(128,nI n)] [(.ext 0,.ob o),(.ext 1,.pure 70 c1),(.ext 2,.pure 174 p1),(.ext 3,.pure 4 q1),(.ext 4,.pure 27 s.enc)],
   ⟨_,0,pre,by omega,rfl,fc,aw,rfl⟩,?_⟩
  rintro q S ⟨n,pre,hn,rfl,fc,aw,rfl⟩;refine RH s N hT hF Df i k v n c x pre _ hw hi hk hc aN hx hn PD fc aw (fun he v1=>?_) hR (fun S kW fl h5 h6 h7=>?_)
  ·rw[List.drop_eq_nil_of_le (by omega)]at aw;refine⟨_,wrap_i64 (by omega) (by omega),?_⟩;exact hN _ pre aN fc aw rfl
  ·exact⟨x.ak.length-(n+1),by omega,n+1,kW,by omega,rfl,h5,h6,h7⟩
 ·have h:=of_decide_eq_false h;exact hX (by omega) _
set_option maxHeartbeats 8000000 in
theorem Ou{c1 p1 q1 e1 e2:List PV}{o o2:Obj}{xs:List Value}{De:List er}(s:ae)(N:Nat)(hT:∀(pre:List eY) (it:eY) (rest:List eY),bZ s=pre++it::rest→pre.length<N→YY [.yl (.ext 0) [.ptr (.ext 1) 0,.ptr (.ext 2) 0,.ptr (.ext 3) 0] xs,.agg it.pl.enc,.ro it.sz it.cs 0] [.ob o,.pure 70 c1,.pure 174 p1,.pure 4 q1,.pure 27 s.enc] (nB true) [.ob o,.pure 70 c1,.pure 174 p1,.pure 4 q1,.pure 27 s.enc])
  (hF:∀(pre:List eY) (it:eY) (rest:List eY),bZ s=pre++it::rest→pre.length=N→YY [.yl (.ext 0) [.ptr (.ext 1) 0,.ptr (.ext 2) 0,.ptr (.ext 3) 0] xs,.agg it.pl.enc,.ro it.sz it.cs 0] [.ob o,.pure 70 c1,.pure 174 p1,.pure 4 q1,.pure 27 s.enc] (nB false) [.ob o2,.pure 70 c1,.pure 174 e1,.pure 4 e2,.pure 27 s.enc])
  (Df:N<(bZ s).length→ [.ob o2,.pure 70 c1,.pure 174 e1,.pure 4 e2,.pure 27 s.enc]=De)
  (hE:N=(bZ s).length→ [.ob o,.pure 70 c1,.pure 174 p1,.pure 4 q1,.pure 27 s.enc]=De) (hw:s.wf) (hNl:N≤(bZ s).length) (iH:s.ay.length≤1000) (kl:∀p∈s.ay,p.aL.length≤1000):
  JJ 179 [.yl (.ext 0) [.ptr (.ext 1) 0,.ptr (.ext 2) 0,.ptr (.ext 3) 0] xs,.iX (.ptr (.ext 4) 0)] [.ob o,.pure 70 c1,.pure 174 p1,.pure 4 q1,.pure 27 s.enc] (.dE []) De:=by
 have fw:maxLen≤9223372036854775807:=by decide
 have j5:=hw.aa.1;have abG:=hw.au.1;refine XX.intro Tryz.func179 rfl rfl rfl rfl ?_;refine⟨_,al _ _,?_⟩;refine⟨[0,1,3,14,15,16],[.ext 0,.ext 1,.ext 2,.ext 3,.ext 4],fun q S=>∃(i st:Nat) (pre:List eY),i≤s.ay.length∧q=s.ay.length-i∧st≤1000*i∧pre.length≤N∧bZ s=pre++(FM i st (s.ay.drop i)++(uD 0 s.aa++sP 0 s.au))∧S=St.mk' [(0,.yl (.ext 0) [.ptr (.ext 1) 0,.ptr (.ext 2) 0,.ptr (.ext 3) 0] xs),(1,.iX (.ptr (.ext 4) 0)),(3,nI st),(14,.p (.sl 6 (s.ay.map cf.enc))),(15,nI s.ay.length),(16,nI i)] [(.ext 0,.ob o),(.ext 1,.pure 70 c1),(.ext 2,.pure 174 p1),(.ext 3,.pure 4 q1),(.ext 4,.pure 27 s.enc)],
  ⟨_,0,0,[],by omega,rfl,by omega,Nat.zero_le _,rfl,rfl⟩,?_⟩
 rintro q S ⟨i,st,pre,hi,rfl,j3,fc,aw,rfl⟩;refine ab (fun h=>?_) (fun h=>?_)
 ·have h:=of_decide_eq_true h;have aN:i<s.ay.length:=by omega
  have bW:=ao cf.enc s.ay i aN;have cV:=av aN;rw[aF aN]at aw;obtain⟨p,hp⟩:∃p,p=s.ay.getD i default:=⟨_,rfl⟩
  rw[←hp]at bW cV aw;have kC:=kl p cV;have aw:bZ s=pre++⟨⟨1,i,0,0,0,0,0⟩,6,p.enc,p.ID⟩::((FL st p.aL++FM (i+1) (st+p.aL.length) (s.ay.drop (i+1)))++(uD 0 s.aa++sP 0 s.au)):=aw;refine⟨_,bW,?_⟩;refine kz (N:=N) fc (fun jX=>?_) (fun heq=>?_)
  ·refine⟨_,_,hT pre _ _ aw jX,rfl,?_⟩;refine ab (fun h=>by cases h) (fun _=>?_);have zf:=ky aw;have mj:(pre++ [(⟨⟨1,i,0,0,0,0,0⟩,6,p.enc,p.ID⟩:eY)]).length=pre.length+1:=by rw[List.length_append];rfl
   rw[List.append_assoc (FL _ _)]at zf;refine⟨_,bW,?_⟩;refine⟨_,al _ _,?_⟩;refine⟨[0,1,3,4,14,15,16,38,39,40],[.ext 0,.ext 1,.ext 2,.ext 3,.ext 4],fun q S=>∃(j Dg:Nat) (pre:List eY),j≤p.aL.length∧q=p.aL.length-j∧Dg=st+j∧pre.length≤N∧bZ s=pre++(FL Dg (p.aL.drop j)++(FM (i+1) (st+p.aL.length) (s.ay.drop (i+1))++(uD 0 s.aa++sP 0 s.au)))∧S=St.mk' [(0,.yl (.ext 0) [.ptr (.ext 1) 0,.ptr (.ext 2) 0,.ptr (.ext 3) 0] xs),(1,.iX (.ptr (.ext 4) 0)),(3,nI Dg),(4,nI i),(14,.p (.sl 6 (s.ay.map cf.enc))),(15,nI s.ay.length),(16,nI i),(38,.p (.sl 3 (p.aL.map ee.enc))),(39,nI p.aL.length),(40,nI j)] [(.ext 0,.ob o),(.ext 1,.pure 70 c1),(.ext 2,.pure 174 p1),(.ext 3,.pure 4 q1),(.ext 4,.pure 27 s.enc)],
    ⟨_,0,st,_,by omega,rfl,by omega,by rw[mj];exact jX,zf,by(try rw[mj]);rfl⟩,?_⟩
   rintro q S ⟨j,Dg,pre,hj,rfl,abH,fc,aw,rfl⟩;refine ab (fun h=>?_) (fun h=>?_)
   ·have h:=of_decide_eq_true h;have nr:j<p.aL.length:=by omega
    have Ot:=ao ee.enc p.aL j nr;rw[aF nr]at aw;obtain⟨y,hy⟩:∃y,y=p.aL.getD j default:=⟨_,rfl⟩
    rw[←hy]at Ot aw;have aw:bZ s=pre++⟨⟨2,0,Dg,0,0,0,0⟩,3,y.enc,y.ID⟩::(FL (Dg+1) (p.aL.drop (j+1))++(FM (i+1) (st+p.aL.length) (s.ay.drop (i+1))++(uD 0 s.aa++sP 0 s.au))):=aw;refine⟨_,bW,?_⟩;refine⟨_,Ot,?_⟩;refine kz (N:=N) fc (fun jX=>?_) (fun heq=>?_)
    ·refine⟨_,_,hT pre _ _ aw jX,rfl,?_⟩;refine ab (fun h=>by cases h) (fun _=>?_);refine⟨((Dg+1:Nat):Int),by rw[wrap_i64 (by omega) (by omega)];omega,?_⟩;refine⟨_,wrap_i64 (by omega) (by omega),?_⟩;refine⟨p.aL.length-(j+1),by omega,j+1,Dg+1,pre++ [_],by omega,rfl,by omega,by rw[List.length_append];exact jX,ky aw,?_⟩
     (try rw[List.length_append])
     rfl
    ·refine⟨_,_,hF pre _ _ aw heq,rfl,?_⟩;refine ab (fun _=>?_) (fun h=>by cases h);have hlen:N<(bZ s).length:=by
      rw[aw,List.length_append,List.length_cons];omega
     exact⟨rfl,Df hlen⟩
   ·have h:=of_decide_eq_false h;rw[List.drop_eq_nil_of_le (by omega)]at aw;refine⟨_,wrap_i64 (by omega) (by omega),?_⟩;have K8:Dg=st+p.aL.length:=by omega
    subst K8;exact⟨s.ay.length-(i+1),by omega,i+1,_,pre,by omega,rfl,by omega,fc,aw,rfl⟩
  ·refine⟨_,_,hF pre _ _ aw heq,rfl,?_⟩;refine ab (fun _=>?_) (fun h=>by cases h);have hlen:N<(bZ s).length:=by
    rw[aw,List.length_append,List.length_cons];omega
   exact⟨rfl,Df hlen⟩
 ·have h:=of_decide_eq_false h;rw[List.drop_eq_nil_of_le (by omega)]at aw;refine⟨_,al _ _,?_⟩;refine⟨[0,1,66,67,68],[.ext 0,.ext 1,.ext 2,.ext 3,.ext 4],fun q S=>∃(i:Nat) (pre:List eY),i≤s.aa.length∧q=s.aa.length-i∧pre.length≤N∧bZ s=pre++(uD i (s.aa.drop i)++sP 0 s.au)∧S=St.mk' [(0,.yl (.ext 0) [.ptr (.ext 1) 0,.ptr (.ext 2) 0,.ptr (.ext 3) 0] xs),(1,.iX (.ptr (.ext 4) 0)),(66,.p (.sl 22 (s.aa.map aj.enc))),(67,nI s.aa.length),(68,nI i)] [(.ext 0,.ob o),(.ext 1,.pure 70 c1),(.ext 2,.pure 174 p1),(.ext 3,.pure 4 q1),(.ext 4,.pure 27 s.enc)],
   ⟨_,0,pre,by omega,rfl,fc,aw,rfl⟩,?_⟩
  rintro q S ⟨i,pre,hi,rfl,fc,aw,rfl⟩;refine ab (fun h=>?_) (fun h=>?_)
  ·have h:=of_decide_eq_true h;have aN:i<s.aa.length:=by omega
   have bW:=ao aj.enc s.aa i aN;have sO:=hw.aa.2 _ (av aN);have dP:=sO.Cells.1;rw[aF aN]at aw;have aw:bZ s=pre++⟨⟨3,0,0,i,0,0,0⟩,22,(s.aa.getD i default).enc,(s.aa.getD i default).ID⟩::((zJ i 0 (s.aa.getD i default).Cells++uD (i+1) (s.aa.drop (i+1)))++sP 0 s.au):=aw;refine⟨_,bW,?_⟩;refine kz (N:=N) fc (fun jX=>?_) (fun heq=>?_)
   ·refine⟨_,_,hT pre _ _ aw jX,rfl,?_⟩;refine ab (fun h=>by cases h) (fun _=>?_);have zf:=ky aw;have mj:(pre++ [(⟨⟨3,0,0,i,0,0,0⟩,22,(s.aa.getD i default).enc,(s.aa.getD i default).ID⟩:eY)]).length=pre.length+1:=by rw[List.length_append];rfl
    rw[List.append_assoc (zJ _ _ _)]at zf;refine⟨_,bW,?_⟩;refine⟨_,al _ _,?_⟩;refine⟨[0,1,6,66,67,68,90,91,92],[.ext 0,.ext 1,.ext 2,.ext 3,.ext 4],fun q S=>∃(k:Nat) (pre:List eY),k≤(s.aa.getD i default).Cells.length∧q=(s.aa.getD i default).Cells.length-k∧pre.length≤N∧bZ s=pre++(zJ i k ((s.aa.getD i default).Cells.drop k)++(uD (i+1) (s.aa.drop (i+1))++sP 0 s.au))∧S=St.mk' [(0,.yl (.ext 0) [.ptr (.ext 1) 0,.ptr (.ext 2) 0,.ptr (.ext 3) 0] xs),(1,.iX (.ptr (.ext 4) 0)),(6,nI i),(66,.p (.sl 22 (s.aa.map aj.enc))),(67,nI s.aa.length),(68,nI i),(90,.p (.sl 2 ((s.aa.getD i default).Cells.map aI.enc))),(91,nI (s.aa.getD i default).Cells.length),(92,nI k)] [(.ext 0,.ob o),(.ext 1,.pure 70 c1),(.ext 2,.pure 174 p1),(.ext 3,.pure 4 q1),(.ext 4,.pure 27 s.enc)],
     ⟨_,0,_,by omega,rfl,by rw[mj];exact jX,zf,by(try rw[mj]);rfl⟩,?_⟩
    rintro q S ⟨k,pre,hk,rfl,fc,aw,rfl⟩;refine ab (fun h=>?_) (fun h=>?_)
    ·have h:=of_decide_eq_true h;have Dh:k<(s.aa.getD i default).Cells.length:=by omega
     have fF:=ao aI.enc _ k Dh;have pk:=sO.Cells.2 _ (av Dh);rw[aF Dh]at aw;obtain⟨c,hc⟩:∃c,c=(s.aa.getD i default).Cells.getD k default:=⟨_,rfl⟩
     rw[←hc]at fF pk aw;have aw:bZ s=pre++((xv i k 0 c.ai++zJ i (k+1) ((s.aa.getD i default).Cells.drop (k+1)))++(uD (i+1) (s.aa.drop (i+1))++sP 0 s.au)):=aw;rw[List.append_assoc]at aw;refine⟨_,bW,?_⟩;refine⟨_,fF,?_⟩;refine⟨_,al _ _,?_⟩;refine⟨[0,1,6,7,66,67,68,90,91,92,106,107,108],[.ext 0,.ext 1,.ext 2,.ext 3,.ext 4],fun q S=>∃(v:Nat) (pre:List eY),v≤c.ai.length∧q=c.ai.length-v∧pre.length≤N∧bZ s=pre++(xv i k v (c.ai.drop v)++(zJ i (k+1) ((s.aa.getD i default).Cells.drop (k+1))++(uD (i+1) (s.aa.drop (i+1))++sP 0 s.au)))∧S=St.mk' [(0,.yl (.ext 0) [.ptr (.ext 1) 0,.ptr (.ext 2) 0,.ptr (.ext 3) 0] xs),(1,.iX (.ptr (.ext 4) 0)),(6,nI i),(7,nI k),(66,.p (.sl 22 (s.aa.map aj.enc))),(67,nI s.aa.length),(68,nI i),(90,.p (.sl 2 ((s.aa.getD i default).Cells.map aI.enc))),(91,nI (s.aa.getD i default).Cells.length),(92,nI k),(106,.p (.sl 2 (c.ai.map ax.enc))),(107,nI c.ai.length),(108,nI v)] [(.ext 0,.ob o),(.ext 1,.pure 70 c1),(.ext 2,.pure 174 p1),(.ext 3,.pure 4 q1),(.ext 4,.pure 27 s.enc)],
      ⟨_,0,pre,by omega,rfl,fc,aw,rfl⟩,?_⟩
     rintro q S ⟨v,pre,hv,rfl,fc,aw,rfl⟩;refine RI s N hT hF Df i k v c pre _ hw aN Dh hc hv pk fc aw (fun he v1=>?_) (fun S h=>h) (fun S kW fl h5 h6 h7=>?_)
     ·rw[List.drop_eq_nil_of_le (by omega)]at aw;refine⟨_,wrap_i64 (by omega) (by omega),?_⟩;exact⟨(s.aa.getD i default).Cells.length-(k+1),by omega,k+1,pre,by omega,rfl,fc,aw,rfl⟩
     ·exact⟨c.ai.length-(v+1),by omega,v+1,kW,by omega,rfl,h5,h6,h7⟩
    ·have h:=of_decide_eq_false h;rw[List.drop_eq_nil_of_le (by omega)]at aw;refine⟨_,wrap_i64 (by omega) (by omega),?_⟩;exact⟨s.aa.length-(i+1),by omega,i+1,pre,by omega,rfl,fc,aw,rfl⟩
   ·refine⟨_,_,hF pre _ _ aw heq,rfl,?_⟩;refine ab (fun _=>?_) (fun h=>by cases h);have hlen:N<(bZ s).length:=by
     rw[aw,List.length_append,List.length_cons];omega
    exact⟨rfl,Df hlen⟩
  ·have h:=of_decide_eq_false h;rw[List.drop_eq_nil_of_le (by omega)]at aw;refine⟨_,al _ _,?_⟩;refine⟨[0,1,165,166,167],[.ext 0,.ext 1,.ext 2,.ext 3,.ext 4],fun q S=>∃(i:Nat) (pre:List eY),i≤s.au.length∧q=s.au.length-i∧pre.length≤N∧bZ s=pre++sP i (s.au.drop i)∧S=St.mk' [(0,.yl (.ext 0) [.ptr (.ext 1) 0,.ptr (.ext 2) 0,.ptr (.ext 3) 0] xs),(1,.iX (.ptr (.ext 4) 0)),(165,.p (.sl 7 (s.au.map br.enc))),(166,nI s.au.length),(167,nI i)] [(.ext 0,.ob o),(.ext 1,.pure 70 c1),(.ext 2,.pure 174 p1),(.ext 3,.pure 4 q1),(.ext 4,.pure 27 s.enc)],
    ⟨_,0,pre,by omega,rfl,fc,aw,rfl⟩,?_⟩
   rintro q S ⟨i,pre,hi,rfl,fc,aw,rfl⟩;refine ab (fun h=>?_) (fun h=>?_)
   ·have h:=of_decide_eq_true h;have aN:i<s.au.length:=by omega
    have bW:=ao br.enc s.au i aN;rw[aF aN]at aw;obtain⟨y,hy⟩:∃y,y=s.au.getD i default:=⟨_,rfl⟩
    rw[←hy]at bW aw;have aw:bZ s=pre++⟨⟨5,0,0,0,0,0,i⟩,7,y.enc,y.ID⟩::sP (i+1) (s.au.drop (i+1)):=aw;refine⟨_,bW,?_⟩;refine kz (N:=N) fc (fun jX=>?_) (fun heq=>?_)
    ·refine⟨_,_,hT pre _ _ aw jX,rfl,?_⟩;refine ab (fun h=>by cases h) (fun _=>?_);refine⟨_,wrap_i64 (by omega) (by omega),?_⟩;refine⟨s.au.length-(i+1),by omega,i+1,pre++ [_],by omega,rfl,by rw[List.length_append];exact jX,ky aw,?_⟩
     (try rw[List.length_append])
     rfl
    ·refine⟨_,_,hF pre _ _ aw heq,rfl,?_⟩;refine ab (fun _=>?_) (fun h=>by cases h);have hlen:N<(bZ s).length:=by
      rw[aw,List.length_append,List.length_cons];omega
     exact⟨rfl,Df hlen⟩
   ·have h:=of_decide_eq_false h;rw[List.drop_eq_nil_of_le (by omega)]at aw;have aw:bZ s=pre++ []:=aw;rw[List.append_nil]at aw;rw[aw]at hNl hE;have hNe:N=pre.length:=by omega
    subst hNe;exact⟨rfl,hE rfl⟩
open Go.Proofs
inductive nt:eY→Prop
 | part (pl:bt) (x:cf):nt ⟨pl,6,x.enc,x.ID⟩
 | aC (pl:bt) (x:ee):nt ⟨pl,3,x.enc,x.ID⟩
 | measure (pl:bt) (x:aj):nt ⟨pl,22,x.enc,x.ID⟩
 | event (pl:bt) (x:aD):nt ⟨pl,13,x.enc,x.ID⟩
 | RJ (pl:bt) (x:br):nt ⟨pl,7,x.enc,x.ID⟩
theorem Ov:∀(l:List ee) (st:Nat) (it:eY),it∈FL st l→nt it
 | [],_,it,h=>by simp[FL]at h
 | x::r,st,it,h=>by
  rcases List.mem_cons.1 h with rfl | h
  ·exact .aC _ x
  ·exact Ov r _ it h
theorem Ow:∀(l:List cf) (i st:Nat) (it:eY),it∈FM i st l→nt it
 | [],_,_,it,h=>by simp[FM]at h
 | x::r,i,st,it,h=>by
  rcases List.mem_cons.1 h with rfl | h
  ·exact .part _ x
  ·rcases List.mem_append.1 h with h | h
   ·exact Ov _ _ it h
   ·exact Ow r _ _ it h
theorem Ox(i k v:Nat):∀(l:List aD) (n:Nat) (it:eY),it∈z8 i k v n l→nt it
 | [],_,it,h=>by simp[z8]at h
 | x::r,n,it,h=>by
  rcases List.mem_cons.1 h with rfl | h
  ·exact .event _ x
  ·exact Ox i k v r _ it h
theorem Oy(i k:Nat):∀(l:List ax) (n:Nat) (it:eY),it∈xv i k n l→nt it
 | [],_,it,h=>by simp[xv]at h
 | x::r,n,it,h=>by
  rcases List.mem_append.1 h with h | h
  ·exact Ox _ _ _ _ _ it h
  ·exact Oy i k r _ it h
theorem Oz(i:Nat):∀(l:List aI) (n:Nat) (it:eY),it∈zJ i n l→nt it
 | [],_,it,h=>by simp[zJ]at h
 | x::r,n,it,h=>by
  rcases List.mem_append.1 h with h | h
  ·exact Oy _ _ _ _ it h
  ·exact Oz i r _ it h
theorem OA:∀(l:List aj) (n:Nat) (it:eY),it∈uD n l→nt it
 | [],_,it,h=>by simp[uD]at h
 | x::r,n,it,h=>by
  rcases List.mem_cons.1 h with rfl | h
  ·exact .measure _ x
  ·rcases List.mem_append.1 h with h | h
   ·exact Oz _ _ _ it h
   ·exact OA r _ it h
theorem OB:∀(l:List br) (n:Nat) (it:eY),it∈sP n l→nt it
 | [],_,it,h=>by simp[sP]at h
 | x::r,n,it,h=>by
  rcases List.mem_cons.1 h with rfl | h
  ·exact .RJ _ x
  ·exact OB r _ it h
theorem xw(s:ae)(it:eY)(h:it∈bZ s):nt it:=by
 rcases List.mem_append.1 h with h | h
 ·exact Ow _ _ _ it h
 ·rcases List.mem_append.1 h with h | h
  ·exact OA _ _ it h
  ·exact OB _ _ it h
theorem Di(s:ae):JJ 131 [.ptr (.ext 0) 0] [.pure 27 s.enc] (.fn 179 [] [.iX (.ptr (.ext 0) 0)]) [.pure 27 s.enc]:=by
 refine XX.intro Tryz.func131 rfl rfl rfl rfl ?_;exact⟨rfl,rfl⟩
abbrev OC(s:ae)(k:Nat):List (List PV):=((bZ s).take k).map fun it=>it.id.enc
theorem qo{α:Type}[Inhabited α]{L pre rest:List α}{it:α}(h:L=pre++it::rest):L.getD pre.length default=it:=by
 rw[h,List.getD_eq_getElem?_getD,List.getElem?_append_right (Nat.le_refl _)];simp
def Dj(it:eY):List AV:= [.agg it.pl.enc,.ro it.sz it.cs 0]
def yF(s:ae)(k:Nat):List AV:=Dj ((bZ s).getD k default)
set_option maxHeartbeats 2000000 in
theorem Vn(s:ae)(hw:s.wf)(iH:s.ay.length≤1000)(kl:∀p∈s.ay,p.aL.length≤1000)(hl:(bZ s).length≤1000000000):
  JJ 80 [.agg s.enc] [] (.own 2 ((bZ s).map fun it=>it.id.enc)) []:=by
 refine XX.intro Tryz.func80 rfl rfl rfl rfl ?_;refine Or.inl ?_;refine⟨_,_,Di s,rfl,?_⟩;refine⟨100,[3],none,?_⟩;intro xs o oB oS oX;refine⟨(bZ s).length,yF s,fun k=> [.mix 25 [.own 2 (OC s k)],.pure 27 s.enc],rfl,fun _=>rfl,fun k hk=>?_,⟨_,fun hY=>⟨Vm (ids:=OC s) (e1:= []) (o2:=o) s (bZ s).length (fun pre it rest aw aN=>?_) (fun pre it rest aw heq=>?_) (fun h=>absurd h (by omega)) (fun _=>rfl) hw (Nat.le_refl _) iH kl,trivial⟩⟩,?_⟩
 ·refine⟨rfl,?_⟩;have cq:=xw s _ (av hk);have oY:=A4 (fun it:eY=>it.id.enc) (bZ s) k hk;obtain⟨it,Cf⟩:∃it,it=(bZ s).getD k default:=⟨_,rfl⟩
  rw[←Cf]at cq oY;have e:yF s k=Dj it:=by rw[Cf];rfl
  rw[e];clear Cf e;have Q4:((OC s k).length+1)*16≤140737488355328:=by
   simp[OC];omega
  cases cq<;>(refine⟨rfl,?_⟩;refine⟨rfl,?_⟩;exact⟨Q4,_,oY,rfl,rfl⟩)
 ·have e:yF s pre.length=Dj it:=by unfold yF;rw[qo aw]
  have:=hY pre.length aN;rw[e]at this;exact this
 ·rw[aw,List.length_append,List.length_cons]at heq;omega
 ·refine Or.inr ?_;refine⟨?_,rfl⟩;unfold OC;rw[List.take_length]
def oZ:cP:=⟨0,0⟩
theorem RK(a b:cP)(h:(a.Site==b.Site&&a.Number==b.Number)=true):a=b:=by
 cases a;cases b;simp only[Bool.and_eq_true,beq_iff_eq]at h;rw[h.1,h.2]
theorem abJ(a b:cP)(h:(a.Site==b.Site&&a.Number==b.Number)=false):a≠b:=by
 intro e;subst e;simp at h
theorem KJ(s:ae):JJ 194 [.agg s.enc,.agg oZ.enc] [] (.dE [.agg (bt.mk 0 0 0 0 0 0 0).enc,nB false]) []:=by
 refine XX.intro Tryz.func194 rfl rfl rfl rfl ?_;refine ab (fun _=>?_) (fun h=>by cases h);refine⟨rfl,?_⟩;refine⟨rfl,?_⟩;exact⟨rfl,rfl⟩
set_option maxHeartbeats 2000000 in
theorem KL(s:ae)(id:cP)(hid:id≠oZ)(hw:s.wf)(iH:s.ay.length≤1000)(kl:∀p∈s.ay,p.aL.length≤1000)(sg:∀it∈bZ s,it.id≠id):
  JJ 194 [.agg s.enc,.agg id.enc] [] (.dE [.agg (bt.mk 0 0 0 0 0 0 0).enc,nB false]) []:=by
 refine XX.intro Tryz.func194 rfl rfl rfl rfl ?_;refine ab (fun h=>absurd (RK id oZ h) hid) (fun _=>?_);refine Or.inl ?_;refine⟨_,_,Di s,rfl,?_⟩;refine⟨100,[3,4,5],none,?_⟩;intro xs o oB oS oX;refine⟨(bZ s).length,yF s,fun k=> [.pure 70 id.enc,.pure 174 (bt.mk 0 0 0 0 0 0 0).enc,.pure 4 [.bool false],.pure 27 s.enc],rfl,fun _=>rfl,fun k hk=>?_,⟨_,fun hY=>⟨Ou (e1:= []) (e2:= []) (o2:=o) s (bZ s).length (fun pre it rest aw aN=>?_) (fun pre it rest aw heq=>?_) (fun h=>absurd h (by omega)) (fun _=>rfl) hw (Nat.le_refl _) iH kl,trivial⟩⟩,?_⟩
 ·refine⟨rfl,?_⟩;have cq:=xw s _ (av hk);have dA:=sg _ (av hk);obtain⟨it,Cf⟩:∃it,it=(bZ s).getD k default:=⟨_,rfl⟩
  rw[←Cf]at cq dA;have e:yF s k=Dj it:=by rw[Cf];rfl
  rw[e];clear Cf e;cases cq<;>(refine⟨rfl,?_⟩;refine⟨rfl,?_⟩;refine⟨rfl,?_⟩;refine ab (fun h=>absurd (RK _ _ h) dA) (fun _=>?_);exact⟨rfl,rfl⟩)
 ·have e:yF s pre.length=Dj it:=by unfold yF;rw[qo aw]
  have:=hY pre.length aN;rw[e]at this;exact this
 ·rw[aw,List.length_append,List.length_cons]at heq;omega
 ·refine⟨rfl,?_⟩;refine⟨rfl,?_⟩;exact⟨rfl,rfl⟩
set_option maxHeartbeats 2000000 in
theorem KM(s:ae)(id:cP)(hid:id≠oZ)(hw:s.wf)(iH:s.ay.length≤1000)(kl:∀p∈s.ay,p.aL.length≤1000)(pre:List eY)(it:eY)(rest:List eY)(hL:bZ s=pre++it::rest)(sg:∀x∈pre,x.id≠id)(Cf:it.id=id):
  JJ 194 [.agg s.enc,.agg id.enc] [] (.dE [.agg it.pl.enc,nB true]) []:=by
 have hlen:pre.length<(bZ s).length:=by rw[hL,List.length_append,List.length_cons];omega
 refine XX.intro Tryz.func194 rfl rfl rfl rfl ?_;refine ab (fun h=>absurd (RK id oZ h) hid) (fun _=>?_);refine Or.inl ?_;refine⟨_,_,Di s,rfl,?_⟩;refine⟨100,[3,4,5],some .ret,?_⟩;intro xs o oB oS oX;refine⟨pre.length,yF s,fun k=> [.pure 70 id.enc,.pure 174 (bt.mk 0 0 0 0 0 0 0).enc,.pure 4 [.bool false],.pure 27 s.enc],rfl,fun _=>rfl,fun k hk=>?_,[.pure 70 id.enc,.pure 174 it.pl.enc,.pure 4 [.bool true],.pure 27 s.enc],rfl,?_,⟨_,fun hY hE=>⟨Ou (o2:=oS) s pre.length (fun kW it2 Yu aw aN=>?_) (fun kW it2 Yu aw heq=>?_) (fun h=>rfl) (fun h=>absurd h (by omega)) hw (by omega) iH kl,trivial⟩⟩,?_⟩
 ·refine⟨rfl,?_⟩;have jJ:k<(bZ s).length:=by omega
  have cq:=xw s _ (av jJ);have Ss:(bZ s).getD k default=pre.getD k default:=by
   rw[hL,List.getD_eq_getElem?_getD,List.getElem?_append_left hk,←List.getD_eq_getElem?_getD]
  have dA:=sg _ (av hk);rw[←Ss]at dA;obtain⟨it,Cf⟩:∃it,it=(bZ s).getD k default:=⟨_,rfl⟩
  rw[←Cf]at cq dA;have e:yF s k=Dj it:=by rw[Cf];rfl
  rw[e];clear Cf e;cases cq<;>(refine⟨rfl,?_⟩;refine⟨rfl,?_⟩;refine⟨rfl,?_⟩;refine ab (fun h=>absurd (RK _ _ h) dA) (fun _=>?_);exact⟨rfl,rfl⟩)
 ·refine⟨rfl,?_⟩;have cq:=xw s it (by rw[hL];simp);have e:yF s pre.length=Dj it:=by unfold yF;rw[qo hL]
  rw[e];cases cq<;>(refine⟨rfl,?_⟩;refine⟨rfl,?_⟩;refine⟨rfl,?_⟩;refine ab (fun _=>?_) (fun h=>absurd Cf (abJ _ _ h));refine⟨rfl,?_⟩;refine⟨rfl,?_⟩;exact⟨rfl,rfl⟩)
 ·have e:yF s kW.length=Dj it2:=by unfold yF;rw[qo aw]
  have:=hY kW.length aN;rw[e]at this;exact this
 ·have e:yF s pre.length=Dj it2:=by unfold yF;rw[←heq,qo aw]
  have:=hE;rw[e]at this;exact this
 ·exact⟨rfl,rfl⟩
open Go.Proofs
theorem IT(i k v:Nat):∀(l:List aD) (n:Nat) (it:eY),it∈z8 i k v n l→ ∃j,j<l.length∧it.pl=kV i k v (n+j)∧it.id=(l.getD j default).ID
 | [],_,it,h=>by simp[z8]at h
 | x::r,n,it,h=>by
  rcases List.mem_cons.1 h with rfl | h
  ·exact⟨0,by simp,rfl,rfl⟩
  ·obtain⟨j,h1,h2,h3⟩:=IT i k v r (n+1) it h;exact⟨j+1,by simp;omega,by rw[h2,show n+1+j=n+(j+1)by omega],h3⟩
theorem IU(i k:Nat):∀(l:List ax) (n:Nat) (it:eY),it∈xv i k n l→ ∃j,j<l.length∧it∈z8 i k (n+j) 0 (l.getD j default).ak
 | [],_,it,h=>by simp[xv]at h
 | x::r,n,it,h=>by
  rcases List.mem_append.1 h with h | h
  ·exact⟨0,by simp,h⟩
  ·obtain⟨j,h1,h2⟩:=IU i k r (n+1) it h;exact⟨j+1,by simp;omega,by rw[show n+(j+1)=n+1+j by omega];exact h2⟩
theorem IV(i:Nat):∀(l:List aI) (n:Nat) (it:eY),it∈zJ i n l→ ∃j,j<l.length∧it∈xv i (n+j) 0 (l.getD j default).ai
 | [],_,it,h=>by simp[zJ]at h
 | x::r,n,it,h=>by
  rcases List.mem_append.1 h with h | h
  ·exact⟨0,by simp,h⟩
  ·obtain⟨j,h1,h2⟩:=IV i r (n+1) it h;exact⟨j+1,by simp;omega,by rw[show n+(j+1)=n+1+j by omega];exact h2⟩
theorem IW:∀(l:List aj) (n:Nat) (it:eY),it∈uD n l→it.pl.Kind=3∨ ∃j,j<l.length∧it∈zJ (n+j) 0 (l.getD j default).Cells
 | [],_,it,h=>by simp[uD]at h
 | x::r,n,it,h=>by
  rcases List.mem_cons.1 h with rfl | h
  ·exact .inl rfl
  ·rcases List.mem_append.1 h with h | h
   ·exact .inr ⟨0,by simp,h⟩
   ·rcases IW r (n+1) it h with h | ⟨j,h1,h2⟩
    ·exact .inl h
    ·exact .inr ⟨j+1,by simp;omega,by rw[show n+(j+1)=n+1+j by omega];exact h2⟩
theorem Fj:∀(l:List ee) (st:Nat) (it:eY),it∈FL st l→it.pl.Kind=2
 | [],_,it,h=>by simp[FL]at h
 | x::r,st,it,h=>by
  rcases List.mem_cons.1 h with rfl | h
  ·rfl
  ·exact Fj r _ it h
theorem Fk:∀(l:List cf) (i st:Nat) (it:eY),it∈FM i st l→it.pl.Kind≠4
 | [],_,_,it,h=>by simp[FM]at h
 | x::r,i,st,it,h=>by
  rcases List.mem_cons.1 h with rfl | h
  ·simp
  ·rcases List.mem_append.1 h with h | h
   ·rw[Fj _ _ it h];simp
   ·exact Fk r _ _ it h
theorem Fl:∀(l:List br) (n:Nat) (it:eY),it∈sP n l→it.pl.Kind=5
 | [],_,it,h=>by simp[sP]at h
 | x::r,n,it,h=>by
  rcases List.mem_cons.1 h with rfl | h
  ·rfl
  ·exact Fl r _ it h
theorem RL(s:ae)(it:eY)(h:it∈bZ s)(hk:it.pl.Kind=4):∃i k v n,At s i k v n∧it.pl=kV i k v n∧it.id=(s.ev i k v n).ID:=by
 rcases List.mem_append.1 h with h | h
 ·exact absurd hk (Fk _ _ _ it h)
 ·rcases List.mem_append.1 h with h | h
  ·rcases IW _ _ it h with h | ⟨i,h1,h⟩
   ·rw[h]at hk;cases hk
   ·rw[Nat.zero_add]at h;obtain⟨k,h2,h⟩:=IV _ _ _ it h;rw[Nat.zero_add]at h;obtain⟨v,h3,h⟩:=IU _ _ _ _ it h;rw[Nat.zero_add]at h;obtain⟨n,h4,h5,h6⟩:=IT _ _ _ _ _ it h;rw[Nat.zero_add]at h5;exact⟨i,k,v,n,⟨h1,h2,h3,h4⟩,h5,h6⟩
  ·rw[Fl _ _ it h]at hk;cases hk
def qp(s:ae)(id:cP):bt×Bool:=
 if id=oZ then(⟨0,0,0,0,0,0,0⟩,false)else match(bZ s).find? fun it=>decide (it.id=id)with
  | some it=>(it.pl,true)
  | none=>(⟨0,0,0,0,0,0,0⟩,false)
theorem RM(s:ae)(id:cP)(hw:s.wf)(iH:s.ay.length≤1000)(kl:∀p∈s.ay,p.aL.length≤1000):
  JJ 194 [.agg s.enc,.agg id.enc] [] (.dE [.agg (qp s id).1.enc,nB (qp s id).2]) []:=by
 unfold qp;by_cases h0:id=oZ
 ·rw[if_pos h0,h0];exact KJ s
 ·rw[if_neg h0];cases hf:(bZ s).find? fun it=>decide (it.id=id)with
  | none=>
   refine KL s id h0 hw iH kl (fun it Cf=>?_);have:=List.find?_eq_none.1 hf it Cf;simpa using this
  | some it=>
   obtain⟨h1,pre,rest,h2,h3⟩:=List.find?_eq_some_iff_append.1 hf;refine KM s id h0 hw iH kl pre it rest h2 (fun x hx=>?_) (by simpa using h1);have:=h3 x hx;simpa using this
theorem OD(s:ae)(id:cP)(h:(qp s id).2=true)(hk:(qp s id).1.Kind=4):∃i k v n,At s i k v n∧(qp s id).1=kV i k v n∧id=(s.ev i k v n).ID:=by
 unfold qp at h hk ⊢;by_cases h0:id=oZ
 ·rw[if_pos h0]at h;cases h
 ·rw[if_neg h0]at h hk ⊢;cases hf:(bZ s).find? fun it=>decide (it.id=id)with
  | none=>rw[hf]at h;cases h
  | some it=>
   rw[hf]at hk;obtain⟨i,k,v,n,h1,h2,h3⟩:=RL s it (List.mem_of_find?_eq_some hf) hk;have:=List.find?_some hf;exact⟨i,k,v,n,h1,h2,by rw[←h3];simpa using(of_decide_eq_true this).symm⟩
def sG(s:ae)(id:cP):bV×Bool:=
 if(bif !(qp s id).2 then true else((qp s id).1.Kind !=4))=true then(⟨0,0,0,0⟩,false)
 else
  let p:=(qp s id).1
  let on:=s.iy p.bc.toNat p.bA.toNat p.cj.toNat
  if p.Event≥on.length then(⟨0,0,0,0⟩,false)else(⟨p.bc,on.getD p.Event.toNat default,p.bA,p.cj⟩,true)
set_option maxHeartbeats 2000000 in
theorem IX(s:ae)(r:Int)(o:List ah)(id:cP)(hw:s.wf)(iH:s.ay.length≤1000)(kl:∀p∈s.ay,p.aL.length≤1000):
  JJ 158 [.ptr (.ext 0) 0,.agg id.enc] [bd s r o] (.dE [.agg (sG s id).1.enc,nB (sG s id).2]) [bd s r o]:=by
 have hfa:=OD s id;unfold sG;refine JJ.intro Tryz.func158 rfl rfl rfl rfl ?_;refine⟨rfl,?_⟩;refine⟨_,RM s id hw iH kl,?_⟩;obtain⟨F,hF⟩:∃F,qp s id=F:=⟨_,rfl⟩
 simp only[hF]at hfa ⊢;refine⟨rfl,?_⟩;refine ab (fun h=>?_) (fun h=>?_)
 ·rw[if_pos (show(bif !F.2 then true else(F.1.Kind !=4))=true from h)];refine⟨rfl,?_⟩;exact⟨rfl,rfl⟩
 ·have h:(bif !F.2 then true else(F.1.Kind !=4))=false:=h;rw[if_neg (by rw[h];simp)];rw[aX,Bool.or_eq_false_iff]at h;obtain⟨i,k,v,n,hA,K5,_⟩:=hfa (by simpa using h.1) (by simpa using h.2);rw[K5];have hm:=hw.aa.2 _ (av hA.hi);have wV:(s.vo i k v).wf:=((hw.aa.2 _ (av hA.hi)).Cells.2 _ (av hA.hc)).ai.2 _ (av hA.hv);have Sl:s.iy (kV i k v n).bc.toNat (kV i k v n).bA.toNat (kV i k v n).cj.toNat=s.iy i k v:=rfl;rw[Sl];have Rp:=yT (s.vo i k v) (s.aa.getD i default).len wV;have e1:s.iy i k v=(cm (s.vo i k v) (s.aa.getD i default).len).1:=rfl;obtain⟨O,hO⟩:∃O,cm (s.vo i k v) (s.aa.getD i default).len=O:=⟨_,rfl⟩
  rw[hO]at Rp e1;obtain⟨os,oe⟩:=O;rw[e1];refine⟨rfl,?_⟩;refine⟨_,ao aj.enc s.aa i hA.hi,?_⟩;refine⟨rfl,?_⟩;refine⟨_,kU _ hm.bC.Unit,?_⟩;refine⟨rfl,?_⟩;refine⟨_,ao aI.enc _ k hA.hc,?_⟩;refine⟨_,ao ax.enc _ v hA.hv,?_⟩;refine⟨_,Rp,?_⟩;refine⟨_,al _ _,?_⟩;refine ab (fun h=>?_) (fun h=>?_)
  ·have h:=of_decide_eq_true h;rw[if_pos (show(kV i k v n).Event≥os.length from h)];refine⟨rfl,?_⟩;exact⟨rfl,rfl⟩
  ·have h:=of_decide_eq_false h;have h0:¬((n:Int)≥os.length):=h;have hn:n<os.length:=by omega
   rw[if_neg (show ¬(kV i k v n).Event≥os.length from h)];refine⟨rfl,?_⟩;refine⟨_,ao cB os n hn,?_⟩;refine⟨rfl,?_⟩;exact⟨rfl,rfl⟩
def Yv(s:ae)(x:br):cr×Bool:=
 let y:cr:=⟨x.Kind,(sG s x.dR).1,(sG s x.To).1⟩
 (y,bif(bif !(sG s x.dR).2 then true else !(sG s x.To).2)then true else(y.err !=0))
def z9(s:ae)(l:List br):List (cr×Bool):=l.map (Yv s)
def zg(b:Bool):List PV:= [.bool b]
set_option maxHeartbeats 2000000 in
theorem IY(s:ae)(r:Int)(o:List ah)(hw:s.wf)(iH:s.ay.length≤1000)(kl:∀p∈s.ay,p.aL.length≤1000)(kC:s.au.length≤100000):
  JJ 106 [.ptr (.ext 0) 0] [bd s r o] (.dE [.p (.sl 9 ((z9 s s.au).map fun y=>y.1.enc)),.p (.sl 1 ((z9 s s.au).map fun y=>zg y.2))]) [bd s r o]:=by
 have fw:maxLen≤9223372036854775807:=by decide
 refine JJ.intro Tryz.func106 rfl rfl rfl rfl ?_;refine⟨_,al _ _,?_⟩;refine⟨[0,4,5,17,18,19],[.ext 0],fun q S=>∃i:Nat,i≤s.au.length∧q=s.au.length-i∧
  S=St.mk' [(0,.ptr (.ext 0) 0),(4,.own 9 ((z9 s (s.au.take i)).map fun y=>y.1.enc)),(5,.own 1 ((z9 s (s.au.take i)).map fun y=>zg y.2)),(17,.p (.sl 7 (s.au.map br.enc))),(18,nI s.au.length),(19,nI i)] [(.ext 0,bd s r o)],⟨_,0,by omega,rfl,rfl⟩,?_⟩
 rintro q S ⟨i,hi,rfl,rfl⟩;refine ab (fun h=>?_) (fun h=>?_)
 ·have h:=of_decide_eq_true h;have aN:i<s.au.length:=by omega
  have bW:=ao br.enc s.au i aN;have oY:z9 s (s.au.take i)++ [Yv s (s.au.getD i default)]=z9 s (s.au.take (i+1)):=by
   unfold z9;rw[List.take_add_one,List.getElem?_eq_getElem aN];have:s.au[i]=s.au.getD i default:=by rw[List.getD_eq_getElem?_getD,List.getElem?_eq_getElem aN];rfl
   rw[this];simp
  have hlen:(z9 s (s.au.take i)).length≤100000:=by
   unfold z9;rw[List.length_map,List.length_take];omega
  obtain⟨x,hx⟩:∃x,x=s.au.getD i default:=⟨_,rfl⟩
  rw[←hx]at bW oY;have h1:(z9 s (s.au.take i)).map (fun y=>y.1.enc)++ [(Yv s x).1.enc]=(z9 s (s.au.take (i+1))).map fun y=>y.1.enc:=by rw[←oY,List.map_append];rfl
  have h2:(z9 s (s.au.take i)).map (fun y=>zg y.2)++ [zg (Yv s x).2]=(z9 s (s.au.take (i+1))).map fun y=>zg y.2:=by rw[←oY,List.map_append];rfl
  have ha:=IX s r o x.dR hw iH kl;have hb:=IX s r o x.To hw iH kl;have e1:Yv s x=(⟨x.Kind,(sG s x.dR).1,(sG s x.To).1⟩,bif(bif !(sG s x.dR).2 then true else !(sG s x.To).2)then true else((⟨x.Kind,(sG s x.dR).1,(sG s x.To).1⟩:cr).err !=0)):=rfl;rw[e1]at h1 h2;obtain⟨A,hA⟩:∃A,sG s x.dR=A:=⟨_,rfl⟩
  obtain⟨B,hB⟩:∃B,sG s x.To=B:=⟨_,rfl⟩
  rw[hA]at ha;rw[hB]at hb;rw[hA,hB]at h1 h2;refine⟨_,bW,?_⟩;refine⟨rfl,?_⟩;refine⟨_,_,ha,rfl,?_⟩;refine⟨rfl,?_⟩;refine⟨_,_,hb,rfl,?_⟩;refine⟨rfl,?_⟩;refine⟨rfl,?_⟩;refine⟨?_,_,h1,?_⟩
  ·show(((z9 s (s.au.take i)).map fun y=>y.1.enc).length+1)*72≤140737488355328;rw[List.length_map];omega
  refine⟨_,fun _=>QF ⟨x.Kind,A.1,B.1⟩,?_⟩;refine⟨?_,_,h2,?_⟩
  ·show(((z9 s (s.au.take i)).map fun y=>zg y.2).length+1)*1≤140737488355328;rw[List.length_map];omega
  refine⟨_,wrap_i64 (by omega) (by omega),?_⟩;exact⟨s.au.length-(i+1),by omega,i+1,by omega,rfl,rfl⟩
 ·have h:=of_decide_eq_false h;obtain rfl:i=s.au.length:=by omega
  rw[List.take_length];exact⟨rfl,rfl⟩
end Go.Hm
