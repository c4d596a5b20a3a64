/- Part 7 of the proof: an abstract machine for the program, its soundness, contracts of functions, and the plain law; no conditions. -/
import Derived.Test.YtnmohbeakccnkaaGreatA6
set_option linter.all false
set_option maxRecDepth 4096
namespace Go.Hm
open Go.Proofs
theorem Ii(n:Int):JJ 173 [nI n] [] (nB false) []:=by
 refine JJ.intro Tryz.func173 rfl rfl rfl rfl ?_;refine And.intro ?_ rfl;show nB (n !=n)=nB false;simp
def kI(a b:Int):Int:=if a<b then-1 else if a>b then 1 else 0
theorem jT(a b:Int):JJ 123 [nI a,nI b] [] (nI (kI a b)) []:=by
 refine JJ.intro Tryz.func123 rfl rfl rfl rfl ?_;unfold kI;refine⟨_,Ii a,?_⟩;refine⟨_,Ii b,?_⟩;refine ab (fun h=>by cases h) (fun _=>?_);refine ab (fun h=>by cases h) (fun _=>?_);refine ab (fun h=>?_) (fun h=>?_)
 ·rw[if_pos (of_decide_eq_true h)];exact⟨rfl,rfl⟩
 ·rw[if_neg (of_decide_eq_false h)];refine ab (fun h=>?_) (fun h=>?_)
  ·rw[if_pos (of_decide_eq_true h)];exact⟨rfl,rfl⟩
  ·rw[if_neg (of_decide_eq_false h)];exact⟨rfl,rfl⟩
theorem Ij(l:List Int)(hl:l.length≤1000000):JJ 122 [.p (.sl 1 (l.map cB))] [] (nI (aW l)) []:=by
 refine JJ.intro Tryz.func122 rfl rfl rfl rfl ?_;refine⟨_,al _ _,?_⟩;refine⟨[3,6,7,8],[],fun n S=>∃k:Nat,k≤l.length∧n=l.length-k∧aW (l.drop k)=aW l∧S=St.mk' [(3,nI 0),(6,.p (.sl 1 (l.map cB))),(7,nI l.length),(8,nI k)] [],⟨_,0,by omega,rfl,rfl,rfl⟩,?_⟩;rintro n S ⟨k,hk,rfl,hf,rfl⟩;refine ab (fun h=>?_) (fun h=>?_)
 ·have h:=of_decide_eq_true h;have b9:k<l.length:=by omega
  rw[rC b9]at hf;refine⟨_,ao _ _ _ b9,?_⟩;refine ab (fun h=>?_) (fun h=>?_)
  ·have h:l.getD k default≠0:=by simpa using h
   rw[if_pos h]at hf;rw[←hf];exact⟨rfl,rfl⟩
  ·have h:¬l.getD k default≠0:=by simpa using h
   rw[if_neg h]at hf;refine⟨_,wrap_i64 (by omega) (by omega),?_⟩;exact⟨_,by omega,k+1,by omega,rfl,hf,rfl⟩
 ·have h:=of_decide_eq_false h;obtain rfl:k=l.length:=by omega
  rw[List.drop_length]at hf;rw[←hf];exact⟨rfl,rfl⟩
def bV.cmp(a b:bV):Int:=aW [kI a.bc b.bc,kI a.At b.At]
theorem od(a b:bV):JJ 197 [.agg a.enc,.agg b.enc] [] (nI (a.cmp b)) []:=by
 refine JJ.intro Tryz.func197 rfl rfl rfl rfl ?_;refine⟨rfl,?_⟩;refine⟨_,jT a.bc b.bc,?_⟩;refine⟨_,jT a.At b.At,?_⟩;refine⟨_,Ij [_,_] (by simp),?_⟩;exact⟨rfl,rfl⟩
theorem Ik(n:Int):JJ 196 [nI n] [] (nB ((n==1)||(n==7))) []:=by
 refine JJ.intro Tryz.func196 rfl rfl rfl rfl ?_;refine And.intro ?_ rfl;rw[←aX]
theorem Np(n:Int):JJ 88 [nI n] [] (nB ((n==11)||(n==20))) []:=by
 refine JJ.intro Tryz.func88 rfl rfl rfl rfl ?_;refine And.intro ?_ rfl;rw[←aX]
theorem Kp(x:aU):(x.Text== []&&x.kG==0)=decide (x=⟨[],0⟩):=by
 obtain⟨t,n⟩:=x;cases h1:decide (t= [])<;>cases h2:decide (n=0)<;>simp_all
theorem QB(e:aD)(v:Int)(hv:0≤v):JJ 157 [.agg e.enc,nI v] [] (nB (decide (v≥e.bz.length)||decide (e.bz.getD v.toNat default=⟨[],0⟩))) []:=by
 refine JJ.intro Tryz.func157 rfl rfl rfl rfl ?_;refine⟨_,al _ _,?_⟩;refine⟨_,fun h=>cZ _ _ _ hv (by have:=of_decide_eq_false h;omega),?_⟩;refine And.intro ?_ rfl;rw[←aX,←Kp]
open Go.Proofs
def yI(n high:Int):Bool:=bif decide (n≥0)then decide (n≤high)else false
theorem xj(n high:Int):JJ 207 [nI n,nI high] [] (nB (yI n high)) []:=by
 refine JJ.intro Tryz.func207 rfl rfl rfl rfl ?_;exact⟨rfl,rfl⟩
def bV.iJ(p:bV):Bool:=bif(bif(bif yI p.bc 1023 then yI p.At 4398046511104 else false)then yI p.bA 127 else false)then yI p.cj 1 else false
theorem Il(p:bV):JJ 195 [.agg p.enc] [] (nB p.iJ) []:=by
 refine JJ.intro Tryz.func195 rfl rfl rfl rfl ?_;refine⟨_,xj p.bc 1023,?_⟩;refine⟨_,fun _=>xj p.At 4398046511104,?_⟩;refine⟨_,fun _=>xj p.bA 127,?_⟩;refine⟨_,fun _=>xj p.cj 1,?_⟩;exact⟨rfl,rfl⟩
def Nq:List PV:= [.int .i64 1,.int .i64 2,.int .i64 2,.int .i64 4,.int .i64 4,.int .i64 6,.int .i64 7]
def family(n:Int):Int:=if n=1 then 1 else if n=2 then 2 else if n=3 then 2 else if n=4 then 4 else if n=5 then 4 else if n=6 then 6 else if n=7 then 7 else 0
theorem Kq{n:Int}(h1:1≤n)(h2:n≤7):Nq[(n-1).toNat*1]? =some (.int .i64 (family n)):=by
 obtain rfl | rfl | rfl | rfl | rfl | rfl | rfl:n=1∨n=2∨n=3∨n=4∨n=5∨n=6∨n=7:=by omega
 all_goals rfl
theorem CI(n:Int):JJ 198 [nI n] [] (nI (family n)) []:=by
 refine JJ.intro Tryz.func198 rfl rfl rfl rfl ?_;refine ab (fun h=>?_) (fun h=>?_)
 ·have e:family n=0:=by
   simp at h;unfold family
   repeat' split
   all_goals omega
  rw[e];exact⟨rfl,rfl⟩
 ·have h1:1≤n∧n≤7:=by simp at h;omega
  refine⟨n-1,wrap_i64 (by omega) (by omega),?_⟩;refine⟨[.int .i64 (family n)],⟨by omega,by omega,_,Kq h1.1 h1.2,rfl⟩,?_⟩;exact⟨rfl,rfl⟩
def vu(a b:cr):Bool:=bif decide (a.To.cmp b.dR≤0)then true else decide (b.To.cmp a.dR≤0)
theorem Im(a b:cr):JJ 162 [.agg a.enc,.agg b.enc] [] (nB (vu a b)) []:=by
 refine JJ.intro Tryz.func162 rfl rfl rfl rfl ?_;refine⟨_,od a.To b.dR,?_⟩;refine⟨_,fun _=>od b.To a.dR,?_⟩;exact⟨rfl,rfl⟩
def nk(a b:cr):Bool:=bif decide (a.To.cmp b.dR<0)then true else decide (b.To.cmp a.dR<0)
theorem QC(a b:cr):JJ 164 [.agg a.enc,.agg b.enc] [] (nB (nk a b)) []:=by
 refine JJ.intro Tryz.func164 rfl rfl rfl rfl ?_;refine⟨_,od a.To b.dR,?_⟩;refine⟨_,fun _=>od b.To a.dR,?_⟩;exact⟨rfl,rfl⟩
def CJ(a b:cr):Bool:=bif decide (a.dR.cmp b.dR≥0)then decide (a.To.cmp b.To≤0)else false
theorem Io(a b:cr):JJ 199 [.agg a.enc,.agg b.enc] [] (nB (CJ a b)) []:=by
 refine JJ.intro Tryz.func199 rfl rfl rfl rfl ?_;refine⟨_,od a.dR b.dR,?_⟩;refine⟨_,fun _=>od a.To b.To,?_⟩;exact⟨rfl,rfl⟩
theorem CK(a b:cr):JJ 161 [.agg a.enc,.agg b.enc] [] (nB (!vu a b)) []:=by
 refine JJ.intro Tryz.func161 rfl rfl rfl rfl ?_;refine⟨_,Im a b,?_⟩;exact⟨rfl,rfl⟩
theorem CL(a b:cr):JJ 163 [.agg a.enc,.agg b.enc] [] (nB (!nk a b)) []:=by
 refine JJ.intro Tryz.func163 rfl rfl rfl rfl ?_;refine⟨_,QC a b,?_⟩;exact⟨rfl,rfl⟩
open Go.Proofs
def Ip(n:Int):Bool:=(n==1)||(n==7)
def qc(a b:cr):Bool:=
 bif(bif(bif decide (family a.Kind>0)then(family a.Kind==family b.Kind)else false)then(a.dR.bA==b.dR.bA)else false)then(bif !Ip a.Kind then true else(a.dR.cj==b.dR.cj))else false
theorem QD(a b:cr):JJ 160 [.agg a.enc,.agg b.enc] [] (nB (qc a b)) []:=by
 refine JJ.intro Tryz.func160 rfl rfl rfl rfl ?_;refine⟨rfl,?_⟩;refine⟨_,CI a.Kind,?_⟩;refine⟨_,fun _=>CI a.Kind,?_⟩;refine⟨_,fun _=>CI b.Kind,?_⟩;refine⟨_,fun _=>Ik a.Kind,?_⟩;exact⟨rfl,rfl⟩
def EP(a b:cr):Bool:=bif !vu a b then(CJ a b==CJ b a)else false
theorem QE(a b:cr):JJ 165 [.agg a.enc,.agg b.enc] [] (nB (EP a b)) []:=by
 refine JJ.intro Tryz.func165 rfl rfl rfl rfl ?_;refine⟨rfl,?_⟩;refine⟨_,Im a b,?_⟩;refine⟨_,fun _=>Io a b,?_⟩;refine⟨_,fun _=>Io b a,?_⟩;exact⟨rfl,rfl⟩
def tX(s:cr):Bool:=bif(s.dR.bA !=s.To.bA)then true else(bif Ip s.Kind then(s.dR.cj !=s.To.cj)else false)
def cr.err(s:cr):Int:=
 if(bif decide (s.Kind<1)then true else decide (s.Kind>7))=true then 11 else if(bif !s.dR.iJ then true else !s.To.iJ)=true then 2 else if tX s=true then 23 else if decide (s.dR.cmp s.To≥0)=true then 25 else 0
theorem QF(s:cr):JJ 159 [.agg s.enc] [] (nI s.err) []:=by
 refine JJ.intro Tryz.func159 rfl rfl rfl rfl ?_;unfold cr.err;refine ab (fun h=>?_) (fun h=>?_)
 ·have h:(bif decide (s.Kind<1)then true else decide (s.Kind>7))=true:=h;rw[if_pos h];exact⟨rfl,rfl⟩
 ·have h:¬(bif decide (s.Kind<1)then true else decide (s.Kind>7))=true:=by rw[show(bif decide (s.Kind<1)then true else decide (s.Kind>7))=false from h];simp
  rw[if_neg h];refine⟨_,Il s.dR,?_⟩;refine⟨_,fun _=>Il s.To,?_⟩;refine ab (fun h=>?_) (fun h=>?_)
  ·have h:(bif !s.dR.iJ then true else !s.To.iJ)=true:=h;rw[if_pos h];exact⟨rfl,rfl⟩
  ·have h:¬(bif !s.dR.iJ then true else !s.To.iJ)=true:=by rw[show(bif !s.dR.iJ then true else !s.To.iJ)=false from h];simp
   rw[if_neg h];refine⟨_,fun _=>Ik s.Kind,?_⟩;refine ab (fun h=>?_) (fun h=>?_)
   ·have h:tX s=true:=h;rw[if_pos h];exact⟨rfl,rfl⟩
   ·have h:¬tX s=true:=by rw[show tX s=false from h];simp
    rw[if_neg h];refine⟨_,od s.dR s.To,?_⟩;refine ab (fun h=>?_) (fun h=>?_)
    ·have h:decide (s.dR.cmp s.To≥0)=true:=h;rw[if_pos h];exact⟨rfl,rfl⟩
    ·have h:¬decide (s.dR.cmp s.To≥0)=true:=by rw[show decide (s.dR.cmp s.To≥0)=false from h];simp
     rw[if_neg h];exact⟨rfl,rfl⟩
open Go.Proofs
def cH.ok(v:cH):Bool:=decide (-77≤v.Steps)&&decide (v.Steps≤77)&&decide (-140≤v.ct)&&decide (v.ct≤140)
theorem Uh(v:cH):JJ 79 [.agg v.enc] [] (nI (if v.ok then 0 else 2)) []:=by
 refine JJ.intro Tryz.func79 rfl rfl rfl rfl ?_;refine ab (fun h=>?_) (fun h=>?_)
 ·have e:v.ok=false:=by simp at h;simp[cH.ok];omega
  rw[e];exact⟨rfl,rfl⟩
 ·have e:v.ok=true:=by simp at h;simp[cH.ok];omega
  rw[e];exact⟨rfl,rfl⟩
def ax.tY(v:ax):Bool:=decide ((v.ak.length:Int)>0)
theorem QG(v:ax):JJ 118 [.agg v.enc] [] (nB v.tY) []:=by
 refine JJ.intro Tryz.func118 rfl rfl rfl rfl ?_;refine⟨_,al _ _,?_⟩;exact⟨rfl,rfl⟩
def cy.tick(m:cy):Int:=(1935360:Int).tdiv m.Unit
theorem QH(m:cy)(h1:1≤m.Unit)(h2:m.Unit≤64):JJ 175 [.agg m.enc] [] (nI m.tick) []:=by
 refine JJ.intro Tryz.func175 rfl rfl rfl rfl ?_;have e:m.tick=1935360/m.Unit:=Int.tdiv_eq_ediv_of_nonneg (by omega);have h3:0≤1935360/m.Unit:=Int.ediv_nonneg (by omega) (by omega);have h4:1935360/m.Unit≤1935360:=Int.ediv_le_self _ (by omega);refine⟨m.tick,⟨by omega,wrap_i64 (by rw[←e]at h3;unfold cy.tick at h3;omega) (by rw[←e]at h4;unfold cy.tick at h4;omega)⟩,?_⟩;exact⟨rfl,rfl⟩
theorem ER{m:cy}(h1:1≤m.Unit):0≤m.tick∧m.tick≤1935360:=by
 have e:m.tick=1935360/m.Unit:=Int.tdiv_eq_ediv_of_nonneg (by omega);rw[e];exact⟨Int.ediv_nonneg (by omega) (by omega),Int.ediv_le_self _ (by omega)⟩
theorem QI(m:cy)(h1:1≤m.Unit)(h2:m.Unit≤64)(h3:1≤m.Count)(h4:m.Count≤64):JJ 125 [.agg m.enc] [] (nI (m.Count*m.tick)) []:=by
 refine JJ.intro Tryz.func125 rfl rfl rfl rfl ?_;obtain⟨t1,t2⟩:=ER h1;have b1:0≤m.Count*m.tick:=Int.mul_nonneg (by omega) t1;have b2:m.Count*m.tick≤64*1935360:=Int.mul_le_mul h4 t2 t1 (by omega);refine⟨rfl,?_⟩;refine⟨_,QH m h1 h2,?_⟩;refine⟨_,wrap_i64 (by omega) (by omega),?_⟩;exact⟨rfl,rfl⟩
open Go.Proofs
def cy.iU(m:cy):List Int:= [m.lu,m.lv,m.lx,m.ly,m.lz,m.lA]
def pvI(n:Int):PV:= .int .i64 n
def vv(i:Nat)(g n:Int):Bool:=bif(bif decide (g<0)then true else decide (g>64))then true else(bif decide (g>0)then((i:Int)!=n)else false)
def kv:Nat→List Int→Int→Int→Option (Int×Int)
 | _,[],s,n=>some (s,n)
 | i,g::r,s,n=>if vv i g n then none else if g>0 then kv (i+1) r (s+g) (n+1)else kv (i+1) r s n
def xk(m:cy):Bool:=(m.lu==0&&(m.lv==0&&(m.lx==0&&(m.ly==0&&(m.lz==0&&m.lA==0)))))
def Ui(m:cy)(o:Option (Int×Int)):Bool:=match o with | none=>false | some (s,n)=>bif(s==m.Count)then decide (n≥2)else false
def cy.mD(m:cy):Bool:=if xk m then true else Ui m (kv 0 m.iU 0 0)
theorem CM{m:cy}{k:Nat}(i:Nat)(s n:Int)(h:k<6):kv i (m.iU.drop k) s n=if vv i (m.iU.getD k default) n then none else if m.iU.getD k default>0 then kv (i+1) (m.iU.drop (k+1)) (s+m.iU.getD k default) (n+1)else kv (i+1) (m.iU.drop (k+1)) s n:=by
 have agl:k<m.iU.length:=h;rw[List.drop_eq_getElem_cons agl,kv,List.getD_eq_getElem?_getD,List.getElem?_eq_getElem agl];all_goals rfl
theorem QJ(m:cy):JJ 174 [.agg m.enc] [] (nB m.mD) []:=by
 refine JJ.intro Tryz.func174 rfl rfl rfl rfl ?_;unfold cy.mD;refine ab (fun h=>?_) (fun h=>?_)
 ·have h:xk m=true:=h;rw[if_pos h];exact⟨rfl,rfl⟩
 ·have h:xk m=false:=h;rw[if_neg (show ¬(xk m=true)by rw[h];simp)];refine⟨[1,3,4,12,13],[.own 1],fun n S=>∃(k:Nat) (s c:Int),k≤6∧n=6-k∧0≤s∧s≤64*k∧0≤c∧c≤k∧kv k (m.iU.drop k) s c=kv 0 m.iU 0 0∧S=St.mk' [(1,.ptr (.own 1) 0),(3,nI s),(4,nI c),(12,.agg (m.iU.map pvI)),(13,nI k)] [(.own 1,.pure 51 m.enc)],
   ⟨_,0,0,0,by omega,rfl,by omega,by omega,by omega,by omega,rfl,rfl⟩,?_⟩
  rintro n S ⟨k,s,c,hk,rfl,gY,kf,r7,nz,hf,rfl⟩;refine ab (fun h=>?_) (fun h=>?_)
  ·have h:(k:Int)<6:=of_decide_eq_true h;have b9:k<6:=by omega
   rw[CM k s c b9]at hf;refine⟨[pvI (m.iU.getD k default)],⟨by omega,by omega,_,?_,rfl⟩,?_⟩
   ·have agl:k<m.iU.length:=b9;have e:(k:Int).toNat*TE.size te 3=k:=by
     have:TE.size te 3=1:=rfl;rw[this];omega
    show(m.iU.map pvI)[(k:Int).toNat*TE.size te 3]? =_;rw[e,List.getElem?_map,List.getD_eq_getElem?_getD,List.getElem?_eq_getElem agl];all_goals rfl
   ·generalize m.iU.getD k default=g at hf;refine ab (fun h=>?_) (fun h=>?_)
    ·have h:vv k g c=true:=h;rw[if_pos h]at hf;rw[←hf];exact⟨rfl,rfl⟩
    ·have h:vv k g c=false:=h;rw[if_neg (show ¬(vv k g c=true)by rw[h];simp)]at hf;have hg:g≤64:=by
      have h2:=h;unfold vv at h2;rw[aX,aX]at h2;simp at h2;omega
     refine ab (fun h=>?_) (fun h=>?_)
     ·have h:g>0:=of_decide_eq_true h;rw[if_pos h]at hf;refine⟨s+g,wrap_i64 (by omega) (by omega),?_⟩;refine⟨c+1,wrap_i64 (by omega) (by omega),?_⟩;refine⟨_,wrap_i64 (by omega) (by omega),?_⟩;exact⟨_,by omega,k+1,s+g,c+1,by omega,rfl,by omega,by push_cast;omega,by omega,by push_cast;omega,hf,rfl⟩
     ·have h:¬g>0:=of_decide_eq_false h;rw[if_neg h]at hf;refine⟨_,wrap_i64 (by omega) (by omega),?_⟩;exact⟨_,by omega,k+1,s,c,by omega,rfl,by omega,by push_cast;omega,by omega,by push_cast;omega,hf,rfl⟩
  ·have h:¬(k:Int)<6:=of_decide_eq_false h;obtain rfl:k=6:=by omega
   have hf:some (s,c)=kv 0 m.iU 0 0:=hf;rw[←hf];exact⟨rfl,rfl⟩
open Go.Proofs
def cy.qd(m:cy):Bool:=bif decide (m.Count<1)then true else decide (m.Count>64)
def cy.tZ(m:cy):Bool:=bif(bif decide (m.Unit<1)then true else decide (m.Unit>64))then true else(rn .i64 m.Unit (m.Unit-1)!=0)
def cy.err(m:cy):Int:=if m.qd=true then 2 else if m.tZ=true then 17 else if m.mD=false then 19 else 0
theorem QK(m:cy)(hu:iO m.Unit):JJ 124 [.agg m.enc] [] (nI m.err) []:=by
 refine JJ.intro Tryz.func124 rfl rfl rfl rfl ?_;unfold cy.err;refine ab (fun h=>?_) (fun h=>?_)
 ·have h:m.qd=true:=h;rw[if_pos h];exact⟨rfl,rfl⟩
 ·have h:¬m.qd=true:=by rw[show m.qd=false from h];simp
  rw[if_neg h];refine⟨m.Unit-1,fun h=>wrap_i64 (by rw[aX]at h;simp at h;omega) (by rw[aX]at h;simp at h;omega),?_⟩;refine⟨rn .i64 m.Unit (m.Unit-1),fun _=>rfl,?_⟩;refine ab (fun h=>?_) (fun h=>?_)
  ·have h:m.tZ=true:=h;rw[if_pos h];exact⟨rfl,rfl⟩
  ·have h:¬m.tZ=true:=by rw[show m.tZ=false from h];simp
   rw[if_neg h];refine⟨_,QJ m,?_⟩;refine ab (fun h=>?_) (fun h=>?_)
   ·have h:m.mD=false:=by simpa using(show(!m.mD)=true from h)
    rw[if_pos h];exact⟨rfl,rfl⟩
   ·have h:m.mD=true:=by simpa using(show(!m.mD)=false from h)
    rw[if_neg (show ¬(m.mD=false)by rw[h];simp)];exact⟨rfl,rfl⟩
theorem cy.ES{m:cy}(h:m.err=0):1≤m.Count∧m.Count≤64∧1≤m.Unit∧m.Unit≤64:=by
 unfold cy.err at h;split at h
 ·cases h
 ·rename_i h1;split at h
  ·cases h
  ·rename_i h2;unfold cy.qd at h1;unfold cy.tZ at h2;rw[aX]at h1;rw[aX,aX]at h2;simp at h1 h2;omega
open Go.Proofs
def yJ(t:aG):Int:=IntKind.i64.wrap (t.cg+t.Count)
def kJ(n:Int):List aG→List aG
 | []=> []
 | t::r=>if yJ t≤n then kJ n r else t::r
def CN(t:aG)(st:List aG):Bool:=bif((st.length:Int)==3)then true else bif decide ((st.length:Int)>0)then decide (yJ t>yJ (st.headD default))else false
abbrev DJ(st:List aG):List (List PV):=st.reverse.map aG.enc
theorem xl(st:List aG):((DJ st).length:Int)=st.length:=by simp[DJ]
theorem Iq{st:List aG}(h:0<(st.length:Int)):(DJ st)[((st.length:Int)-1).toNat]? =some (st.headD default).enc:=by
 cases st with
 | nil=>simp at h
 | cons t r=>
  have e:(((t::r).length:Int)-1).toNat=r.length:=by simp
  rw[e];simp[DJ]
theorem QL(t:aG)(st:List aG)(hl:st.length≤1000):
  JJ 217 [.agg t.enc,.ptr (.ext 0) 0] [.mix 89 [.mo 4 (DJ st)]] (nB (!CN t (kJ t.cg st))) [.mix 89 [.mo 4 (DJ (if CN t (kJ t.cg st)then kJ t.cg st else t::kJ t.cg st))]]:=by
 refine JJ.intro Tryz.func217 rfl rfl rfl rfl ?_;refine⟨[1,2],[.ext 0,.own 2],fun n S=>∃GY,n=GY.length∧GY.length≤1000∧kJ t.cg GY=kJ t.cg st∧S=St.mk' [(1,.ptr (.ext 0) 0),(2,.ptr (.own 2) 0)] [(.ext 0,.mix 89 [.mo 4 (DJ GY)]),(.own 2,.pure 292 t.enc)],⟨st.length,st,rfl,hl,rfl,rfl⟩,?_⟩;rintro n S ⟨GY,rfl,m5,hp,rfl⟩;refine⟨rfl,?_⟩;refine⟨_,xl GY,?_⟩;refine⟨_,fun _=>xl GY,?_⟩;refine⟨_,fun h=>wrap_i64 (by simp at h;omega) (by simp at h;omega),?_⟩;refine⟨fun h=>?_,?_⟩
 ·simp[DJ]at h ⊢;omega
 refine⟨_,fun h=>Iq (by simpa using h),?_⟩;refine⟨_,fun _=>xg _,?_⟩;refine ab (fun h=>?_) (fun h=>?_)
 ·cases GY with
  | nil=>simp at h
  | cons agh r=>
   have h:(bif decide (((agh::r).length:Int)>0)then decide (yJ agh≤t.cg)else false)=true:=h;rw[aR,Bool.and_eq_true]at h;have h2:yJ agh≤t.cg:=by simpa using h.2
   refine⟨_,xl _,?_⟩;refine⟨_,wrap_i64 (by have:=m5;omega) (by have:=m5;omega),?_⟩;refine⟨by simp[DJ];omega,?_⟩;refine⟨by simp[DJ],DJ r,by simp[DJ],?_⟩;refine⟨r.length,by simp,r,rfl,by simp at m5;omega,?_,rfl⟩;rw[←hp];simp[kJ,h2]
 ·have abf:kJ t.cg GY=GY:=by
   cases GY with
   | nil=>rfl
   | cons agh r=>
    have h:(bif decide (((agh::r).length:Int)>0)then decide (yJ agh≤t.cg)else false)=false:=h;rw[aR]at h;have h2:¬yJ agh≤t.cg:=by
     intro e;simp[e]at h
    simp[kJ,h2]
  rw[abf]at hp;rw[←hp];refine⟨_,xl _,?_⟩;refine⟨rfl,?_⟩;refine⟨_,fun _ _=>xg t,?_⟩;refine⟨_,fun h1 h2=>wrap_i64 (by simp at h2;omega) (by simp at h2;omega),?_⟩;refine⟨fun h1 h2=>?_,?_⟩
  ·simp[DJ]at h2 ⊢;omega
  refine⟨_,fun h1 h2=>Iq (by simpa using h2),?_⟩;refine⟨_,fun _ _=>xg _,?_⟩;refine ab (fun h=>?_) (fun h=>?_)
  ·have h:CN t GY=true:=h;rw[h];exact⟨rfl,rfl⟩
  ·have h:CN t GY=false:=h;rw[h];refine⟨rfl,?_,DJ (t::GY),by simp[DJ],?_⟩
   ·show((DJ GY).length+1)*32≤140737488355328;simp[DJ];omega
   exact⟨rfl,rfl⟩
open Go.Proofs
def Uj(n:Int):Bool:=decide (1≤n)&&decide (n≤32)
def GZ(n:Int)(t:aG):Bool:=bif decide (t.Count<1)then true else decide (t.Count>n)
def CO(n:Int)(t:aG):Bool:=bif GZ n t then true else decide (t.cg<0)
def Nr(n:Int)(t:aG):Bool:=bif CO n t then true else decide (t.cg>n-t.Count)
def Ns(n:Int)(t:aG):Bool:=bif Nr n t then true else !Uj t.iT
def Nt(n:Int)(t:aG):Bool:=bif Ns n t then true else !Uj t.lW
def yK(n:Int)(t:aG):Bool:=bif Nt n t then true else(t.iT==t.lW)
def xm(prev:Option aG)(t:aG):Bool:=match prev with | some p=>decide (vp p t>0) | none=>false
def Nu(n:Int)(prev:Option aG)(st:List aG):List aG→Int
 | []=>0
 | t::r=>if yK n t=true then 2 else if xm prev t=true then 25 else
   if CN t (kJ t.cg st)=true then 21 else Nu n (some t) (t::kJ t.cg st) r
def og(l:List aG)(n:Int):Int:=if n<0∨n>128 then 2 else if(l.length:Int)>16 then 9 else Nu n none [] l
theorem ET(n:Int)(st:List aG):(kJ n st).length≤st.length:=by
 induction st with
 | nil=>simp[kJ]
 | cons t r ih=>unfold kJ;split<;>simp<;>omega
def Ir(l:List aG)(k:Nat):Option aG:=if 0<k then some (l.getD (k-1) default)else none
theorem QM(l:List aG)(n:Int):JJ 212 [.p (.sl 4 (l.map aG.enc)),nI n] [] (nI (og l n)) []:=by
 refine JJ.intro Tryz.func212 rfl rfl rfl rfl ?_;unfold og;refine ab (fun h=>?_) (fun h=>?_)
 ·have h:(bif decide (n<0)then true else decide (n>128))=true:=h;rw[aX]at h;rw[if_pos (by simpa using h)];exact⟨rfl,rfl⟩
 ·have h:(bif decide (n<0)then true else decide (n>128))=false:=h;rw[aX]at h;have hn:¬(n<0∨n>128):=by simp at h;omega
  rw[if_neg hn];refine⟨_,al _ _,?_⟩;refine ab (fun h=>?_) (fun h=>?_)
  ·rw[if_pos (of_decide_eq_true h)];exact⟨rfl,rfl⟩
  ·have hl:=of_decide_eq_false h;rw[if_neg hl];generalize hR:Nu n none [] l=R;refine⟨_,al _ _,?_⟩;refine⟨[0,1,6,19,20,21],[.own 5],fun m S=>∃(k:Nat) (st:List aG),m=l.length-k∧k≤l.length∧st.length≤k∧Nu n (Ir l k) st (l.drop k)=R∧
    S=St.mk' [(0,.p (.sl 4 (l.map aG.enc))),(1,nI n),(6,.fn 217 [] [.ptr (.own 5) 0]),(19,.p (.sl 4 (l.map aG.enc))),(20,nI l.length),(21,nI k)] [(.own 5,.mix 89 [.mo 4 (DJ st)])],⟨l.length,0,[],rfl,by omega,by simp,hR,rfl⟩,?_⟩
   rintro m S ⟨k,st,rfl,hk,j3,aw,rfl⟩;refine ab (fun h=>?_) (fun h=>?_)
   ·have aN:k<l.length:=by simpa using h
    refine⟨_,ao _ _ _ aN,?_⟩;generalize ht:l.getD k default=t;have hd:l.drop k=t::l.drop (k+1):=by
     rw[List.drop_eq_getElem_cons aN,←ht,List.getD_eq_getElem?_getD,List.getElem?_eq_getElem aN];rfl
    rw[hd]at aw;unfold Nu at aw;refine⟨rfl,?_⟩;refine⟨n-t.Count,fun h=>?_,?_⟩
    ·have h:CO n t=false:=h;unfold CO GZ at h;rw[aX,aX]at h;simp at h;exact wrap_i64 (by omega) (by omega)
    refine⟨_,fun _=>Ic t.iT,?_⟩;refine⟨_,fun _=>Ic t.lW,?_⟩;refine ab (fun h=>?_) (fun h=>?_)
    ·have h:yK n t=true:=h;rw[if_pos h]at aw;subst aw;exact⟨rfl,rfl⟩
    ·have h:yK n t=false:=h;rw[if_neg (by rw[h];simp)]at aw;refine⟨rfl,?_⟩;refine⟨(k:Int)-1,fun h=>wrap_i64 (by omega) (by omega),?_⟩;refine⟨(l.getD (k-1) default).enc,fun h=>?_,?_⟩
     ·have h:decide ((k:Int)>0)=true:=h;simp at h;have e:=cZ aG.enc l ((k:Int)-1) (by omega) (by omega);rw[show((k:Int)-1).toNat=k-1 by omega]at e ⊢;exact e
     refine⟨_,fun _=>Qd _ t,?_⟩;have hp:(bif decide ((k:Int)>0)then decide (vp (l.getD (k-1) default) t>0)else false)=xm (Ir l k) t:=by
      unfold xm Ir;by_cases Kc:0<k
      ·rw[if_pos Kc,show decide ((k:Int)>0)=true by simp;exact Kc];all_goals rfl
      ·rw[if_neg Kc,show decide ((k:Int)>0)=false by simp;omega];rfl
     refine ab (fun h=>?_) (fun h=>?_)
     ·have h:=hp.symm.trans h;rw[if_pos h]at aw;subst aw;exact⟨rfl,rfl⟩
     ·have h:=hp.symm.trans h;rw[if_neg (by rw[h];simp)]at aw;refine⟨_,_,QL t st (by omega),rfl,?_⟩;refine ab (fun h=>?_) (fun h=>?_)
      ·have h:(!(!CN t (kJ t.cg st)))=true:=h;rw[if_pos (by simpa using h)]at aw;subst aw;exact⟨rfl,rfl⟩
      ·have h:(!(!CN t (kJ t.cg st)))=false:=h;have h:CN t (kJ t.cg st)=false:=by simpa using h
       rw[if_neg (by rw[h];simp)]at aw;refine⟨_,wrap_i64 (by omega) (by omega),?_⟩;refine⟨l.length-(k+1),by omega,k+1,t::kJ t.cg st,rfl,by omega,?_,?_,?_⟩
       ·have:=ET t.cg st;simp;omega
       ·rw[←aw];unfold Ir;rw[if_pos (by omega),Nat.add_sub_cancel,ht]
       ·rw[h];rfl
   ·have pj:k=l.length:=by simp at h;omega
    subst pj;rw[List.drop_length]at aw;have aw:(0:Int)=R:=aw;subst aw;exact⟨rfl,rfl⟩
open Go.Proofs
def oh(k:Int)(l:List aG):Nat:=(l.filter (aG.has · k)).length
theorem nm(k:Int)(t:aG)(l:List aG):oh k (t::l)=(if t.has k=true then 1 else 0)+oh k l:=by
 unfold oh;rw[List.filter_cons];split<;>simp<;>omega
def ko(n:Int)(t:aG):Prop:=1≤t.Count∧0≤t.cg∧t.cg+t.Count≤n∧1≤t.iT∧t.iT≤32∧1≤t.lW∧t.lW≤32∧n≤128
theorem Kr{n:Int}{t:aG}(hn:n≤128)(h:yK n t=false):ko n t:=by
 unfold yK Nt Ns Nr CO GZ Uj at h;simp only[aX,Bool.or_eq_false_iff]at h;obtain⟨⟨⟨⟨⟨⟨h1,h2⟩,h3⟩,h4⟩,h5⟩,h6⟩,h7⟩:=h;simp at h1 h2 h3 h4 h5 h6;unfold ko;omega
theorem ko.end_{n:Int}{t:aG}(h:ko n t):yJ t=t.cg+t.Count:=by
 unfold ko at h;exact wrap_i64 (by omega) (by omega)
theorem Ks{a b:aG}(h:¬vp a b>0):a.cg≤b.cg:=by
 unfold vp at h;split at h
 ·split at h
  ·omega
  ·simp at h
 ·omega
theorem vx{n:Int}(hn:n≤128):∀(l:List aG) (prev:Option aG) (st:List aG),Nu n prev st l=0→ ∀t∈l,ko n t
 | [],_,_,_,t,ht=>by simp at ht
 | a::r,prev,st,h,t,ht=>by
  unfold Nu at h;split at h
  ·cases h
  ·rename_i hs;split at h
   ·cases h
   ·split at h
    ·cases h
    ·rcases List.mem_cons.1 ht with rfl | ht
     ·exact Kr hn (by simpa using hs)
     ·exact vx hn r _ _ h t ht
theorem yL{n:Int} :∀(l:List aG) (p:aG) (st:List aG),Nu n (some p) st l=0→ ∀t∈l,p.cg≤t.cg
 | [],_,_,_,t,ht=>by simp at ht
 | a::r,p,st,h,t,ht=>by
  unfold Nu at h;split at h
  ·cases h
  ·split at h
   ·cases h
   ·rename_i ho;have SG:=Ks (a:=p) (b:=a) (by simpa [xm]using ho);split at h
    ·cases h
    ·rcases List.mem_cons.1 ht with rfl | ht
     ·exact SG
     ·exact Int.le_trans SG (yL r a _ h t ht)
theorem QO{n k:Int}{t:aG}(hs:ko n t)(h:yJ t≤k):t.has k=false:=by
 rw[hs.end_]at h;unfold aG.has;simp;intro _;omega
theorem EU{n k m:Int}(hm:m≤k):∀(st:List aG),(∀t∈st,ko n t)→oh k (kJ m st)=oh k st
 | [],_=>rfl
 | t::r,h=>by
  unfold kJ;split
  ·rename_i he;rw[EU hm r (fun t ht=>h t (by simp[ht])),nm,QO (h t (by simp)) (by omega)];simp
  ·rfl
theorem EV{m:Int} :∀(st:List aG) {t:aG},t∈kJ m st→t∈st
 | [],t,h=>h
 | a::r,t,h=>by
  unfold kJ at h;split at h
  ·exact List.mem_cons_of_mem _ (EV r h)
  ·exact h
theorem Nv(k:Int)(l:List aG):oh k l≤l.length:=List.length_filter_le _ _
theorem Is{n:Int}(hn:n≤128)(k:Int):∀(l:List aG) (prev:Option aG) (st:List aG),Nu n prev st l=0→(∀t∈st,ko n t)→st.length≤3→oh k st+oh k l≤3
 | [],_,st,_,_,hl=>by have:=Nv k st;simp[oh]at this ⊢;omega
 | a::r,prev,st,h,j3,hl=>by
  have K4:=vx hn (a::r) prev st h;unfold Nu at h;split at h
  ·cases h
  ·split at h
   ·cases h
   ·split at h
    ·cases h
    ·rename_i hb;have K5:=ET a.cg st;have Tp:(kJ a.cg st).length≠3:=by
      intro e;apply hb;unfold CN;rw[show(((kJ a.cg st).length:Int)==3)=true by rw[e];rfl];all_goals rfl
     by_cases hk:a.cg≤k
     ·have:=Is hn k r (some a) (a::kJ a.cg st) h (fun t ht=>by
       rcases List.mem_cons.1 ht with rfl | ht
       ·exact K4 t (by simp)
       ·exact j3 t (EV st ht)) (by simp;omega)
      rw[nm,EU hk st j3]at this;rw[nm];omega
     ·have h0:oh k (a::r)=0:=by
       have hs:=yL r a _ h;unfold oh;rw[List.length_eq_zero_iff,List.filter_eq_nil_iff];intro t ht;unfold aG.has;rcases List.mem_cons.1 ht with rfl | ht
       ·simp;omega
       ·have:=hs t ht;simp;omega
      rw[h0];have:=Nv k st;omega
theorem EW{l:List aG}{n:Int}(h:og l n=0):0≤n∧n≤128∧(l.length:Int)≤16∧(∀t∈l,ko n t)∧ ∀k,oh k l≤3:=by
 unfold og at h;split at h
 ·cases h
 ·split at h
  ·cases h
  ·refine⟨by omega,by omega,by omega,vx (by omega) l _ _ h,fun k=>?_⟩;have:=Is (by omega) k l none [] h (by simp) (by simp);omega
def eE(k:Int):Int→Int→List aG→Int×Int
 | a,b,[]=>(a,b)
 | a,b,t::r=>if t.has k=true then eE k ((a*t.lW).tdiv (Int.gcd (a*t.lW) (b*t.iT))) ((b*t.iT).tdiv (Int.gcd (a*t.lW) (b*t.iT))) r else eE k a b r
theorem tdiv_le{x g:Int}(hx:1≤x)(hg:1≤g)(hd:g∣x):1≤x.tdiv g∧x.tdiv g≤x:=by
 rw[Int.tdiv_eq_ediv_of_nonneg (by omega)];obtain⟨c,rfl⟩:=hd;rw[Int.mul_ediv_cancel_left _ (by omega)];have hc:1≤c:=by
  rcases Int.lt_or_le 0 c with h | h
  ·omega
  ·have:g*c≤0:=Int.mul_nonpos_of_nonneg_of_nonpos (by omega) h;omega
 refine⟨hc,?_⟩;have:=Int.mul_le_mul_of_nonneg_right hg (show 0≤c by omega);omega
theorem yM{a b x y:Int}(ha:1≤a)(hb:1≤b){M:Int}(hM:a≤M)(hM2:b≤M)(hx:1≤x)(rq:x≤32)(hy:1≤y)(Ge:y≤32):
  1≤a*x∧a*x≤M*32∧1≤b*y∧b*y≤M*32∧1≤(Int.gcd (a*x) (b*y):Int)∧
   1≤(a*x).tdiv (Int.gcd (a*x) (b*y))∧(a*x).tdiv (Int.gcd (a*x) (b*y))≤M*32∧1≤(b*y).tdiv (Int.gcd (a*x) (b*y))∧(b*y).tdiv (Int.gcd (a*x) (b*y))≤M*32:=by
 have h1:1≤a*x:=by have:=Int.mul_le_mul ha hx (by omega) (by omega);omega
 have h2:a*x≤M*32:=Int.mul_le_mul hM rq (by omega) (by omega);have h3:1≤b*y:=by have:=Int.mul_le_mul hb hy (by omega) (by omega);omega
 have h4:b*y≤M*32:=Int.mul_le_mul hM2 Ge (by omega) (by omega);have hg:1≤(Int.gcd (a*x) (b*y):Int):=by
  have:0<Int.gcd (a*x) (b*y):=Int.gcd_pos_of_ne_zero_left _ (by omega);omega
 obtain⟨d1,d2⟩:=tdiv_le h1 hg (Int.gcd_dvd_left ..);obtain⟨d3,d4⟩:=tdiv_le h3 hg (Int.gcd_dvd_right ..);exact⟨h1,h2,h3,h4,hg,d1,by omega,d3,by omega⟩
theorem mE{n k:Int} :∀(l:List aG) (a b:Int) (c:Nat),(∀t∈l,ko n t)→c+oh k l≤3→1≤a→a≤(32:Int) ^ c→1≤b→b≤(32:Int) ^ c→
  1≤(eE k a b l).1∧(eE k a b l).1≤32768∧1≤(eE k a b l).2∧(eE k a b l).2≤32768
 | [],a,b,c,_,hc,h1,h2,h3,h4=>by
  have hp:(32:Int) ^ c≤32768:=by
   have:c≤3:=by omega
   have:c=0∨c=1∨c=2∨c=3:=by omega
   rcases this with rfl | rfl | rfl | rfl<;>decide
  unfold eE;exact⟨h1,by omega,h3,by omega⟩
 | t::r,a,b,c,hs,hc,h1,h2,h3,h4=>by
  rw[nm]at hc;unfold eE;split
  ·rename_i hh;rw[if_pos hh]at hc;obtain⟨s1,s2,s3,s4,s5,s6,s7,s8⟩:=hs t (by simp);obtain⟨_,_,_,_,_,q1,q2,q3,q4⟩:=yM h1 h3 h2 h4 s6 s7 s4 s5;exact mE r _ _ (c+1) (fun t ht=>hs t (by simp[ht])) (by omega) q1 (by rw[Int.pow_succ];exact q2) q3 (by rw[Int.pow_succ];exact q4)
  ·rename_i hh;rw[if_neg hh]at hc;exact mE r a b c (fun t ht=>hs t (by simp[ht])) (by omega) h1 h2 h3 h4
theorem QP(l:List aG)(k n:Int)(hk:iO k)(hl:l.length≤16)(hs:∀t∈l,ko n t)(hc:oh k l≤3):JJ 221 [.p (.sl 4 (l.map aG.enc)),nI k] [] (.dE [nI (eE k 1 1 l).1,nI (eE k 1 1 l).2]) []:=by
 refine JJ.intro Tryz.func221 rfl rfl rfl rfl ?_;generalize hR:eE k 1 1 l=R;refine⟨_,al _ _,?_⟩;refine⟨[1,4,5,9,10,11],[],fun m S=>∃(j c:Nat) (a b:Int),m=l.length-j∧j≤l.length∧c+oh k (l.drop j)≤3∧1≤a∧a≤(32:Int) ^ c∧1≤b∧b≤(32:Int) ^ c∧eE k a b (l.drop j)=R∧
  S=St.mk' [(1,nI k),(4,nI a),(5,nI b),(9,.p (.sl 4 (l.map aG.enc))),(10,nI l.length),(11,nI j)] [],⟨l.length,0,0,1,1,rfl,by omega,by simpa using hc,by omega,by simp,by omega,by simp,hR,rfl⟩,?_⟩
 rintro m S ⟨j,c,a,b,rfl,hj,Wh,DI,Gy,tj,iE,hr,rfl⟩;refine ab (fun h=>?_) (fun h=>?_)
 ·have aN:j<l.length:=by simpa using h
  refine⟨_,ao _ _ _ aN,?_⟩;generalize ht:l.getD j default=t;have PS:t∈l:=by rw[←ht,List.getD_eq_getElem?_getD,List.getElem?_eq_getElem aN];exact List.getElem_mem aN
  have hd:l.drop j=t::l.drop (j+1):=by
   rw[List.drop_eq_getElem_cons aN,←ht,List.getD_eq_getElem?_getD,List.getElem?_eq_getElem aN];rfl
  rw[hd]at hr Wh;rw[nm]at Wh;unfold eE at hr;obtain⟨s1,s2,s3,s4,s5,s6,s7,s8⟩:=hs t PS;refine⟨rfl,?_⟩;refine⟨_,Qe t k hk s2,?_⟩;refine ab (fun h=>?_) (fun h=>?_)
  ·have h:t.has k=true:=h;rw[if_pos h]at hr Wh;have hp:(32:Int) ^ c≤1024:=by
    have:c=0∨c=1∨c=2:=by omega
    rcases this with rfl | rfl | rfl<;>decide
   obtain⟨q1,q2,q3,q4,q5,q6,q7,q8,q9⟩:=yM DI tj Gy iE s6 s7 s4 s5;refine⟨rfl,?_⟩;refine⟨_,wrap_i64 (by omega) (by omega),?_⟩;refine⟨_,wrap_i64 (by omega) (by omega),?_⟩;refine⟨_,Qf _ _ (by omega) (by omega),?_⟩;refine⟨rfl,?_⟩;refine⟨_,⟨by omega,wrap_i64 (by omega) (by omega)⟩,?_⟩;refine⟨_,⟨by omega,wrap_i64 (by omega) (by omega)⟩,?_⟩;refine⟨_,wrap_i64 (by omega) (by omega),?_⟩;exact⟨l.length-(j+1),by omega,j+1,c+1,_,_,rfl,by omega,by omega,q6,by rw[Int.pow_succ];exact q7,q8,by rw[Int.pow_succ];exact q9,hr,rfl⟩
  ·have h:t.has k=false:=h;rw[if_neg (by rw[h];simp)]at hr Wh;refine⟨_,wrap_i64 (by omega) (by omega),?_⟩;exact⟨l.length-(j+1),by omega,j+1,c,a,b,rfl,by omega,by omega,DI,Gy,tj,iE,hr,rfl⟩
 ·have Kt:j=l.length:=by simp at h;omega
  subst Kt;rw[List.drop_length]at hr;have hr:(a,b)=R:=hr;subst hr;exact⟨rfl,rfl⟩
open Go.Proofs
structure Ku(l:List aG)(n:Int):Prop where
 len:l.length≤16
 shape:∀t∈l,ko n t
 ZE:∀k,oh k l≤3
theorem Ku.of{l:List aG}{n:Int}(h:og l n=0):Ku l n∧n≤128∧0≤n:=by
 obtain⟨h0,h1,h2,h3,h4⟩:=EW h;exact⟨⟨by omega,h3,h4⟩,h1,h0⟩
theorem Ku.drop{l:List aG}{n:Int}(h:Ku l n)(i:Nat):Ku (l.drop i) n:=by
 refine⟨by rw[List.length_drop];have:=h.len;omega,fun t ht=>h.shape t (List.mem_of_mem_drop ht),fun k=>?_⟩;have:=h.ZE k;have h2:oh k (l.drop i)≤oh k l:=by
  unfold oh;exact(List.Sublist.filter _ (List.drop_sublist i l)).length_le
 omega
def jU(l:List aG)(k v:Int):Int×Int:=
 if v<0∨v>7741440 then(0,2)else if(v*(eE k 1 1 l).1).tmod (eE k 1 1 l).2≠0 then(0,16)else((v*(eE k 1 1 l).1).tdiv (eE k 1 1 l).2,0)
theorem qe{l:List aG}{n k v:Int}(hl:Ku l n):0≤(jU l k v).1∧(jU l k v).1≤253671505920:=by
 have hr:=mE (n:=n) (k:=k) l 1 1 0 hl.shape (by have:=hl.ZE k;omega) (by omega) (by simp) (by omega) (by simp);unfold jU;split
 ·simp
 ·split
  ·simp
  ·rename_i hv _;have h1:0≤v*(eE k 1 1 l).1:=Int.mul_nonneg (by omega) (by omega);have h2:v*(eE k 1 1 l).1≤7741440*32768:=Int.mul_le_mul (by omega) hr.2.1 (by omega) (by omega);simp only;rw[Int.tdiv_eq_ediv_of_nonneg h1];refine⟨Int.ediv_nonneg h1 (by omega),?_⟩;have:=Int.ediv_le_self (b:=(eE k 1 1 l).2) h1;omega
theorem It(l:List aG)(k v n:Int)(hk:iO k)(hl:Ku l n):JJ 213 [.p (.sl 4 (l.map aG.enc)),nI k,nI v] [] (.dE [nI (jU l k v).1,nI (jU l k v).2]) []:=by
 have hr:=mE (n:=n) (k:=k) l 1 1 0 hl.shape (by have:=hl.ZE k;omega) (by omega) (by simp) (by omega) (by simp);refine JJ.intro Tryz.func213 rfl rfl rfl rfl ?_;unfold jU;refine ab (fun h=>?_) (fun h=>?_)
 ·have h:(bif decide (v<0)then true else decide (v>7741440))=true:=h;rw[aX]at h;rw[if_pos (by simpa using h)];exact⟨rfl,rfl⟩
 ·have h:(bif decide (v<0)then true else decide (v>7741440))=false:=h;rw[aX]at h;have hn:¬(v<0∨v>7741440):=by simp at h;omega
  rw[if_neg hn];have h1:0≤v*(eE k 1 1 l).1:=Int.mul_nonneg (by omega) (by omega);have h2:v*(eE k 1 1 l).1≤7741440*32768:=Int.mul_le_mul (by omega) hr.2.1 (by omega) (by omega);refine⟨_,QP l k n hk hl.len hl.shape (hl.ZE k),?_⟩;refine⟨_,wrap_i64 (by omega) (by omega),?_⟩;refine⟨_,⟨by omega,rfl⟩,?_⟩;refine ab (fun h=>?_) (fun h=>?_)
  ·rw[if_pos (by simpa using h)];exact⟨rfl,rfl⟩
  ·rw[if_neg (by simpa using h)];refine⟨_,wrap_i64 (by omega) (by omega),?_⟩;have h3:(v*(eE k 1 1 l).1).tdiv (eE k 1 1 l).2≤v*(eE k 1 1 l).1:=by
    rw[Int.tdiv_eq_ediv_of_nonneg h1];exact Int.ediv_le_self _ h1
   have h4:0≤(v*(eE k 1 1 l).1).tdiv (eE k 1 1 l).2:=by
    rw[Int.tdiv_eq_ediv_of_nonneg h1];exact Int.ediv_nonneg h1 (by omega)
   refine⟨_,⟨by omega,wrap_i64 (by omega) (by omega)⟩,?_⟩;exact⟨rfl,rfl⟩
def fH(l:List aG):Nat→List Int→List Int→List Int×Int
 | _,acc,[]=>(acc,0)
 | k,acc,v::r=>if(jU l k v).2≠0 then([],(jU l k v).2)else fH l (k+1) (acc++ [(jU l k v).1]) r
def fL(l:List aG)(vs:List Int):List Int×Int:=if og l vs.length≠0 then([],og l vs.length)else fH l 0 [] vs
theorem Iu(l:List aG)(vs:List Int):JJ 205 [.p (.sl 4 (l.map aG.enc)),.p (.sl 1 (vs.map cB))] [] (.dE [.p (.sl 1 ((fL l vs).1.map cB)),nI (fL l vs).2]) []:=by
 refine JJ.intro Tryz.func205 rfl rfl rfl rfl ?_;unfold fL;refine⟨_,al _ _,?_⟩;refine⟨_,QM l vs.length,?_⟩;refine ab (fun h=>?_) (fun h=>?_)
 ·rw[if_pos (by simpa using h)];exact⟨rfl,rfl⟩
 ·have h0:og l vs.length=0:=by simpa using h
  rw[if_neg (by rw[h0];simp)];obtain⟨hT,hn1,hn2⟩:=Ku.of h0;generalize hR:fH l 0 [] vs=R;refine⟨_,al _ _,?_⟩;refine⟨⟨by omega,by show(vs.length:Int)*8≤_;omega⟩,?_⟩;refine⟨_,al _ _,?_⟩;refine⟨[0,7,22,23,24],[],fun m S=>∃(k:Nat) (acc:List Int),m=vs.length-k∧k≤vs.length∧acc.length=k∧fH l k acc (vs.drop k)=R∧
   S=St.mk' [(0,.p (.sl 4 (l.map aG.enc))),(7,.own 1 (acc.map cB)),(22,.p (.sl 1 (vs.map cB))),(23,nI vs.length),(24,nI k)] [],⟨vs.length,0,[],rfl,by omega,rfl,hR,rfl⟩,?_⟩
  rintro m S ⟨k,acc,rfl,hk,ZF,hr,rfl⟩;refine ab (fun h=>?_) (fun h=>?_)
  ·have aN:k<vs.length:=by simpa using h
   refine⟨_,ao _ _ _ aN,?_⟩;generalize ht:vs.getD k default=v;have hd:vs.drop k=v::vs.drop (k+1):=by
    rw[List.drop_eq_getElem_cons aN,←ht,List.getD_eq_getElem?_getD,List.getElem?_eq_getElem aN];rfl
   rw[hd]at hr;unfold fH at hr;refine⟨_,It l k v vs.length (by unfold iO;omega) hT,?_⟩;refine ab (fun h=>?_) (fun h=>?_)
   ·rw[if_pos (by simpa using h)]at hr;subst hr;exact⟨rfl,rfl⟩
   ·rw[if_neg (by simpa using h)]at hr;refine⟨?_,(acc++ [(jU l k v).1]).map cB,by simp[cB],?_⟩
    ·show((acc.map cB).length+1)*8≤140737488355328;simp;omega
    refine⟨_,wrap_i64 (by omega) (by omega),?_⟩;exact⟨vs.length-(k+1),by omega,k+1,_,rfl,by omega,by simp;omega,hr,rfl⟩
  ·have pj:k=vs.length:=by simp at h;omega
   subst pj;rw[List.drop_length]at hr;have hr:(acc,(0:Int))=R:=hr;subst hr;exact⟨rfl,rfl⟩
open Go.Proofs
def G0(l:List aG)(vs:List Int):Nat→Int→Int→Option Int
 | 0,_,oF=>some oF
 | c+1,k,oF=>if(jU l k (vs.getD k.toNat default)).2≠0 then none else G0 l vs c (k+1) (oF+(jU l k (vs.getD k.toNat default)).1)
def EX(oF act:Int):Nat→Int→Option Int
 | 0,_=>none
 | c+1,d=>if oF=IntKind.i64.wrap (act*DL .i64 3870720 (d+1))then some d else EX oF act c (d+1)
def Iv(l:List aG)(i:Nat)(vs:List Int):Option Int:=
 match G0 (l.drop (i+1)) vs (l.getD i default).Count.toNat (l.getD i default).cg 0 with
 | none=>none
 | some oF=>EX oF (l.getD i default).iT 10 (-1)
def abh(o:Option Int):AV:= .dE [nI (o.getD 0),nB o.isSome]
theorem G1{l:List aG}{n:Int}(hT:Ku l n)(vs:List Int):∀(c:Nat) (k oF r:Int),G0 l vs c k oF=some r→oF≤r∧r≤oF+c*253671505920
 | 0,k,oF,r,h=>by cases h;omega
 | c+1,k,oF,r,h=>by
  unfold G0 at h;split at h
  ·cases h
  ·have hb:=qe (k:=k) (v:=vs.getD k.toNat default) hT;have:=G1 hT vs c _ _ _ h;omega
theorem QQ(l:List aG)(i:Nat)(vs:List Int)(hi:i<l.length)(hT:Ku l vs.length)(hv:vs.length≤128):JJ 214 [.p (.sl 4 (l.map aG.enc)),nI i,.p (.sl 1 (vs.map cB))] [] (abh (Iv l i vs)) []:=by
 refine JJ.intro Tryz.func214 rfl rfl rfl rfl ?_;unfold Iv;refine⟨_,ao _ _ _ hi,?_⟩;have PS:l.getD i default∈l:=by rw[List.getD_eq_getElem?_getD,List.getElem?_eq_getElem hi];exact List.getElem_mem hi
 have K4:=hT.shape _ PS;have Sd:=hT.len;generalize l.getD i default=t at K4;have Kj:=K4.end_;obtain⟨s1,s2,s3,s4,s5,s6,s7,s8⟩:=K4;have hTd:=hT.drop (i+1);generalize hR:G0 (l.drop (i+1)) vs t.Count.toNat t.cg 0=R;refine⟨rfl,?_⟩;refine⟨[0,1,2,8,9,10],[.own 8],fun m S=>∃(c:Nat) (oF:Int),m=c∧(c:Int)≤t.Count∧0≤oF∧oF≤(128-c)*253671505920∧G0 (l.drop (i+1)) vs c (t.cg+t.Count-c) oF=R∧
  S=St.mk' [(0,.p (.sl 4 (l.map aG.enc))),(1,nI i),(2,.p (.sl 1 (vs.map cB))),(8,.ptr (.own 8) 0),(9,nI oF),(10,nI (t.cg+t.Count-c))] [(.own 8,.pure 292 t.enc)],
  ⟨t.Count.toNat,t.Count.toNat,0,rfl,by omega,by omega,by omega,by rw[show t.cg+t.Count-(t.Count.toNat:Int)=t.cg by omega];exact hR,by rw[show t.cg+t.Count-(t.Count.toNat:Int)=t.cg by omega];rfl⟩,?_⟩
 rintro m S ⟨c,oF,rfl,hc,ht0,Wd,hr,rfl⟩;refine⟨_,xg t,?_⟩;refine ab (fun h=>?_) (fun h=>?_)
 ·have h:decide (t.cg+t.Count-(m:Int)<yJ t)=true:=h;rw[Kj]at h;have hm:0<m:=by simp at h;omega
  obtain⟨c,rfl⟩:∃c,m=c+1:=⟨m-1,by omega⟩
  unfold G0 at hr;generalize hk:t.cg+t.Count-((c+1:Nat):Int)=k at hr;have Kc:0≤k:=by omega
  have ph:k<vs.length:=by omega
  refine⟨rfl,?_⟩;refine⟨_,wrap_i64 (by omega) (by omega),?_⟩;refine⟨l.drop (i+1) |>.map aG.enc,⟨⟨by omega,by simp;omega⟩,?_⟩,?_⟩
  ·rw[List.map_drop,show((i:Int)+1).toNat=i+1 by omega]
  refine⟨_,cZ cB vs k Kc (by omega),?_⟩;refine⟨_,It (l.drop (i+1)) k (vs.getD k.toNat default) vs.length (by unfold iO;omega) hTd,?_⟩;refine ab (fun h=>?_) (fun h=>?_)
  ·rw[if_pos (by simpa using h)]at hr;subst hr;exact⟨rfl,rfl⟩
  ·rw[if_neg (by simpa using h)]at hr;have hb:=qe (k:=k) (v:=vs.getD k.toNat default) hTd;refine⟨_,wrap_i64 (by omega) (by omega),?_⟩;refine⟨_,wrap_i64 (by omega) (by omega),?_⟩;refine⟨c,by omega,c,oF+(jU (l.drop (i+1)) k (vs.getD k.toNat default)).1,rfl,by omega,by omega,by omega,?_,?_⟩
   ·rw[←hr];rw[show t.cg+t.Count-(c:Int)=k+1 by omega]
   ·rw[show t.cg+t.Count-(c:Int)=k+1 by omega];all_goals rfl
 ·have h:decide (t.cg+t.Count-(m:Int)<yJ t)=false:=h;rw[Kj]at h;have hm:m=0:=by simp at h;omega
  subst hm;have hr:some oF=R:=hr;subst hr;simp only;generalize hF:EX oF t.iT 10 (-1)=F;refine⟨[8,9,13],[.own 8],fun m S=>∃c:Nat,m=c∧c≤10∧EX oF t.iT c (9-c)=F∧S=St.mk' [(8,.ptr (.own 8) 0),(9,nI oF),(13,nI (9-c))] [(.own 8,.pure 292 t.enc)],⟨10,10,rfl,by omega,hF,rfl⟩,?_⟩;rintro m S ⟨c,rfl,hc,hf,rfl⟩;refine ab (fun h=>?_) (fun h=>?_)
  ·have h:=of_decide_eq_true h;obtain⟨c,rfl⟩:∃c,m=c+1:=⟨m-1,by omega⟩
   unfold EX at hf;generalize hd:(9:Int)-((c+1:Nat):Int)=d at hf h;refine⟨rfl,?_⟩;refine⟨_,wrap_i64 (by omega) (by omega),?_⟩;refine⟨_,⟨by omega,rfl⟩,?_⟩;refine⟨_,rfl,?_⟩;refine ab (fun h=>?_) (fun h=>?_)
   ·have h:(oF==IntKind.i64.wrap (t.iT*DL .i64 3870720 (d+1)))=true:=h;rw[if_pos (by simpa using h)]at hf;subst hf;exact⟨rfl,rfl⟩
   ·have h:(oF==IntKind.i64.wrap (t.iT*DL .i64 3870720 (d+1)))=false:=h;rw[if_neg (by simpa using h)]at hf;refine⟨_,wrap_i64 (by omega) (by omega),?_⟩;refine⟨c,by omega,c,rfl,by omega,?_,?_⟩
    ·rw[←hf,show(9:Int)-(c:Int)=d+1 by omega]
    ·rw[show(9:Int)-(c:Int)=d+1 by omega];all_goals rfl
  ·have h:=of_decide_eq_false h;have hm:m=0:=by omega
   subst hm;have hf:(none:Option Int)=F:=hf;subst hf;exact⟨rfl,rfl⟩
def ua(l:List aG)(vs:List Int):Nat→Nat→List Int→List Int×Int
 | 0,_,acc=>(acc,0)
 | c+1,i,acc=>match Iv l i vs with
  | none=>([],21)
  | some d=>ua l vs c (i+1) (acc++ [d])
def CP(l:List aG)(vs:List Int):List Int×Int:=if(fL l vs).2≠0 then([],(fL l vs).2)else ua l vs l.length 0 []
theorem QR(l:List aG)(vs:List Int):JJ 206 [.p (.sl 4 (l.map aG.enc)),.p (.sl 1 (vs.map cB))] [] (.dE [.p (.sl 1 ((CP l vs).1.map cB)),nI (CP l vs).2]) []:=by
 refine JJ.intro Tryz.func206 rfl rfl rfl rfl ?_;unfold CP;refine⟨_,Iu l vs,?_⟩;refine ab (fun h=>?_) (fun h=>?_)
 ·rw[if_pos (by simpa using h)];exact⟨rfl,rfl⟩
 ·have h0:(fL l vs).2=0:=by simpa using h
  rw[if_neg (by rw[h0];simp)];have h1:og l vs.length=0:=by
   unfold fL at h0;split at h0
   ·exact h0
   ·rename_i hh;simpa using hh
  obtain⟨hT,hn1,hn2⟩:=Ku.of h1;have hTl:=hT.len;generalize hR:ua l vs l.length 0 []=R;refine⟨_,al _ _,?_⟩;refine⟨⟨by omega,by show(l.length:Int)*8≤_;omega⟩,?_⟩;refine⟨_,al _ _,?_⟩;refine⟨[0,1,8,25,26],[],fun m S=>∃(k:Nat) (acc:List Int),m=l.length-k∧k≤l.length∧acc.length=k∧ua l vs (l.length-k) k acc=R∧
   S=St.mk' [(0,.p (.sl 4 (l.map aG.enc))),(1,.p (.sl 1 (vs.map cB))),(8,.own 1 (acc.map cB)),(25,nI l.length),(26,nI k)] [],⟨l.length,0,[],rfl,by omega,rfl,hR,rfl⟩,?_⟩
  rintro m S ⟨k,acc,rfl,hk,ZF,hr,rfl⟩;refine ab (fun h=>?_) (fun h=>?_)
  ·have aN:k<l.length:=by simpa using h
   rw[show l.length-k=(l.length-(k+1))+1 by omega]at hr;unfold ua at hr;refine⟨_,QQ l k vs aN hT (by omega),?_⟩;cases hu:Iv l k vs with
   | none=>
    rw[hu]at hr;refine ab (fun h=>?_) (fun h=>?_)
    ·have hr:(([]:List Int),(21:Int))=R:=hr;subst hr;exact⟨rfl,rfl⟩
    ·cases h
   | some d=>
    rw[hu]at hr;refine ab (fun h=>?_) (fun h=>?_)
    ·cases h
    ·refine⟨?_,(acc++ [d]).map cB,by simp[cB],?_⟩
     ·show((acc.map cB).length+1)*8≤140737488355328;simp;omega
     refine⟨_,wrap_i64 (by omega) (by omega),?_⟩;exact⟨l.length-(k+1),by omega,k+1,_,rfl,by omega,by simp;omega,hr,rfl⟩
  ·have pj:k=l.length:=by simp at h;omega
   subst pj;rw[Nat.sub_self]at hr;have hr:(acc,(0:Int))=R:=hr;subst hr;exact⟨rfl,rfl⟩
open Go.Proofs
theorem Uk(m:cy)(hu:iO m.Unit):JJ 69 [.agg m.enc] [] (.dE [nI (if m.err≠0 then 0 else m.Count*m.tick),nI (if m.err≠0 then m.err else 0)]) []:=by
 refine JJ.intro Tryz.func69 rfl rfl rfl rfl ?_;refine⟨_,QK m hu,?_⟩;refine ab (fun h=>?_) (fun h=>?_)
 ·have h:m.err≠0:=by simpa using h
  rw[if_pos h,if_pos h];exact⟨rfl,rfl⟩
 ·have h:¬m.err≠0:=by simpa using h
  obtain⟨h1,h2,h3,h4⟩:=cy.ES (Decidable.not_not.1 h);rw[if_neg h,if_neg h];refine⟨_,QI m h3 h4 h1 h2,?_⟩;exact⟨rfl,rfl⟩
def aj.want(m:aj):Int:=if m.Length>0 then m.Length else m.bC.Count*m.bC.tick
def aj.cI(m:aj):Int:=
 if m.bC.err≠0 then m.bC.err else if m.Length<0 then 2 else if m.want.tmod 7560≠0 then 16 else if m.want>15482880 then 5 else 0
def aj.len(m:aj):Int:=if m.cI=0 then m.want else 0
theorem kU(m:aj)(hu:iO m.bC.Unit):JJ 37 [.agg m.enc] [] (.dE [nI m.len,nI m.cI]) []:=by
 refine JJ.intro Tryz.func37 rfl rfl rfl rfl ?_;refine⟨_,Uk m.bC hu,?_⟩;by_cases he:m.bC.err≠0
 ·have e1:m.cI=m.bC.err:=by unfold aj.cI;rw[if_pos he]
  have e2:m.len=0:=by unfold aj.len;rw[e1,if_neg he]
  rw[e1,e2,if_pos he,if_pos he];refine ab (fun h=>?_) (fun h=>?_)
  ·exact⟨rfl,rfl⟩
  ·exact absurd (show m.bC.err=0 by simpa using h) he
 ·rw[if_neg he,if_neg he];refine ab (fun h=>by cases h) (fun _=>?_);refine ab (fun h=>?_) (fun h=>?_)
  ·have h:m.Length<0:=of_decide_eq_true h;have e1:m.cI=2:=by unfold aj.cI;rw[if_neg he,if_pos h]
   have e2:m.len=0:=by unfold aj.len;rw[e1];rfl
   rw[e1,e2];exact⟨rfl,rfl⟩
  ·have h0:¬m.Length<0:=of_decide_eq_false h;refine ab (fun h=>?_) (fun h=>?_)
   ·have h1:m.Length>0:=of_decide_eq_true h;have ew:m.want=m.Length:=by unfold aj.want;rw[if_pos h1]
    refine⟨_,⟨by omega,rfl⟩,?_⟩;refine ab (fun h=>?_) (fun h=>?_)
    ·have h:m.Length.tmod 7560≠0:=by simpa using h
     have e1:m.cI=16:=by unfold aj.cI;rw[if_neg he,if_neg h0,ew,if_pos h]
     have e2:m.len=0:=by unfold aj.len;rw[e1];rfl
     rw[e1,e2];exact⟨rfl,rfl⟩
    ·have h:¬m.Length.tmod 7560≠0:=by simpa using h
     refine ab (fun h2=>?_) (fun h2=>?_)
     ·have h2:m.Length>15482880:=of_decide_eq_true h2;have e1:m.cI=5:=by unfold aj.cI;rw[if_neg he,if_neg h0,ew,if_neg h,if_pos h2]
      have e2:m.len=0:=by unfold aj.len;rw[e1];rfl
      rw[e1,e2];exact⟨rfl,rfl⟩
     ·have h2:¬m.Length>15482880:=of_decide_eq_false h2;have e1:m.cI=0:=by unfold aj.cI;rw[if_neg he,if_neg h0,ew,if_neg h,if_neg h2]
      have e2:m.len=m.Length:=by unfold aj.len;rw[e1,ew];rfl
      rw[e1,e2];exact⟨rfl,rfl⟩
   ·have h1:¬m.Length>0:=of_decide_eq_false h;have ew:m.want=m.bC.Count*m.bC.tick:=by unfold aj.want;rw[if_neg h1]
    refine⟨_,⟨by omega,rfl⟩,?_⟩;refine ab (fun h=>?_) (fun h=>?_)
    ·have h:(m.bC.Count*m.bC.tick).tmod 7560≠0:=by simpa using h
     have e1:m.cI=16:=by unfold aj.cI;rw[if_neg he,if_neg h0,ew,if_pos h]
     have e2:m.len=0:=by unfold aj.len;rw[e1];rfl
     rw[e1,e2];exact⟨rfl,rfl⟩
    ·have h:¬(m.bC.Count*m.bC.tick).tmod 7560≠0:=by simpa using h
     refine ab (fun h2=>?_) (fun h2=>?_)
     ·have h2:m.bC.Count*m.bC.tick>15482880:=of_decide_eq_true h2;have e1:m.cI=5:=by unfold aj.cI;rw[if_neg he,if_neg h0,ew,if_neg h,if_pos h2]
      have e2:m.len=0:=by unfold aj.len;rw[e1];rfl
      rw[e1,e2];exact⟨rfl,rfl⟩
     ·have h2:¬m.bC.Count*m.bC.tick>15482880:=of_decide_eq_false h2;have e1:m.cI=0:=by unfold aj.cI;rw[if_neg he,if_neg h0,ew,if_neg h,if_neg h2]
      have e2:m.len=m.bC.Count*m.bC.tick:=by unfold aj.len;rw[e1,ew];rfl
      rw[e1,e2];exact⟨rfl,rfl⟩
theorem aj.QS(m:aj)(h1:m.cI=0):0≤m.len∧m.len≤15482880:=by
 have e:m.len=m.want:=by unfold aj.len;rw[if_pos h1]
 rw[e];unfold aj.cI at h1;split at h1
 ·exact absurd h1 (by assumption)
 ·rename_i he;split at h1
  ·cases h1
  ·split at h1
   ·cases h1
   ·split at h1
    ·cases h1
    ·refine⟨?_,by omega⟩;obtain⟨a1,a2,a3,a4⟩:=cy.ES (Decidable.not_not.1 he);obtain⟨t1,t2⟩:=ER a3;unfold aj.want;split
     ·omega
     ·exact Int.mul_nonneg (by omega) t1
open Go.Proofs
def gD(acc:Int):List cf→Int
 | []=>acc
 | p::r=>gD (IntKind.i64.wrap (acc+p.aL.length)) r
def ae.bG(s:ae):Int:=gD 0 s.ay
theorem oU{l:List cf}{k:Nat}(acc:Int)(h:k<l.length):gD acc (l.drop k)=gD (IntKind.i64.wrap (acc+(l.getD k default).aL.length)) (l.drop (k+1)):=by
 rw[List.drop_eq_getElem_cons h,gD,List.getD_eq_getElem?_getD,List.getElem?_eq_getElem h];all_goals rfl
theorem vy(s:ae)(hl:s.ay.length≤maxLen):JJ 31 [.agg s.enc] [] (nI s.bG) []:=by
 refine JJ.intro Tryz.func31 rfl rfl rfl rfl ?_;have fw:maxLen≤9223372036854775807:=by decide
 refine⟨_,al _ _,?_⟩;refine⟨[3,7,8,9],[],fun n S=>∃(k:Nat) (acc:Int),k≤s.ay.length∧n=s.ay.length-k∧gD acc (s.ay.drop k)=s.bG∧S=St.mk' [(3,nI acc),(7,.p (.sl 6 (s.ay.map cf.enc))),(8,nI s.ay.length),(9,nI k)] [],⟨_,0,0,by omega,rfl,rfl,rfl⟩,?_⟩;rintro n S ⟨k,acc,hk,rfl,hf,rfl⟩;refine ab (fun h=>?_) (fun h=>?_)
 ·have h:=of_decide_eq_true h;have b9:k<s.ay.length:=by omega
  rw[oU acc b9]at hf;refine⟨_,ao _ _ _ b9,?_⟩;refine⟨rfl,?_⟩;refine⟨_,al _ _,?_⟩;refine⟨_,rfl,?_⟩;refine⟨_,wrap_i64 (by omega) (by omega),?_⟩;exact⟨_,by omega,k+1,_,by omega,rfl,hf,rfl⟩
 ·have h:=of_decide_eq_false h;obtain rfl:k=s.ay.length:=by omega
  rw[List.drop_length]at hf;have hf:acc=s.bG:=hf;rw[←hf];exact⟨rfl,rfl⟩
theorem yN(s:ae)(hl:s.ay.length≤maxLen):JJ 35 [.agg s.enc] [] (nI s.bG) []:=by
 refine JJ.intro Tryz.func35 rfl rfl rfl rfl ?_;have fw:maxLen≤9223372036854775807:=by decide
 refine⟨[1,3,4],[.own 1],fun n S=>∃(k:Nat) (acc:Int),k≤s.ay.length∧n=s.ay.length-k∧gD acc (s.ay.drop k)=s.bG∧S=St.mk' [(1,.ptr (.own 1) 0),(3,nI acc),(4,nI k)] [(.own 1,.pure 27 s.enc)],⟨_,0,0,by omega,rfl,rfl,rfl⟩,?_⟩;rintro n S ⟨k,acc,hk,rfl,hf,rfl⟩;refine⟨_,al _ _,?_⟩;refine ab (fun h=>?_) (fun h=>?_)
 ·have h:=of_decide_eq_true h;have b9:k<s.ay.length:=by omega
  rw[oU acc b9]at hf;refine⟨_,ao _ _ _ b9,?_⟩;refine⟨_,al _ _,?_⟩;refine⟨_,rfl,?_⟩;refine⟨_,wrap_i64 (by omega) (by omega),?_⟩;exact⟨_,by omega,k+1,_,by omega,rfl,hf,rfl⟩
 ·have h:=of_decide_eq_false h;obtain rfl:k=s.ay.length:=by omega
  rw[List.drop_length]at hf;have hf:acc=s.bG:=hf;rw[←hf];exact⟨rfl,rfl⟩
def ax.whole(v:ax):Bool:=bif decide ((v.ak.length:Int)>0)then((v.ak.getD 0 default).Kind==3)else false
theorem QT(v:ax):JJ 176 [.agg v.enc] [] (nB v.whole) []:=by
 refine JJ.intro Tryz.func176 rfl rfl rfl rfl ?_;refine⟨_,al _ _,?_⟩;refine⟨_,fun h=>ao _ _ 0 (by have:=of_decide_eq_true h;omega),?_⟩;exact⟨rfl,rfl⟩
open Go.Proofs
def ub(a:Int):List Int→Int
 | []=>a
 | v::r=>ub (IntKind.i64.wrap (a+v)) r
theorem QU(vs:List Int)(hl:vs.length≤maxLen):JJ 127 [.p (.sl 1 (vs.map cB))] [] (nI (ub 0 vs)) []:=by
 have fw:maxLen≤9223372036854775807:=by decide
 refine JJ.intro Tryz.func127 rfl rfl rfl rfl ?_;generalize hR:ub 0 vs=R;refine⟨_,al _ _,?_⟩;refine⟨[3,6,7,8],[],fun m S=>∃(k:Nat) (a:Int),m=vs.length-k∧k≤vs.length∧ub a (vs.drop k)=R∧S=St.mk' [(3,nI a),(6,.p (.sl 1 (vs.map cB))),(7,nI vs.length),(8,nI k)] [],⟨vs.length,0,0,rfl,by omega,hR,rfl⟩,?_⟩;rintro m S ⟨k,a,rfl,hk,hr,rfl⟩;refine ab (fun h=>?_) (fun h=>?_)
 ·have aN:k<vs.length:=by simpa using h
  refine⟨_,ao _ _ _ aN,?_⟩;generalize ht:vs.getD k default=v;have hd:vs.drop k=v::vs.drop (k+1):=by
   rw[List.drop_eq_getElem_cons aN,←ht,List.getD_eq_getElem?_getD,List.getElem?_eq_getElem aN];rfl
  rw[hd]at hr;unfold ub at hr;refine⟨_,rfl,?_⟩;refine⟨_,wrap_i64 (by omega) (by omega),?_⟩;exact⟨vs.length-(k+1),by omega,k+1,_,rfl,by omega,hr,rfl⟩
 ·have pj:k=vs.length:=by simp at h;omega
  subst pj;rw[List.drop_length]at hr;have hr:a=R:=hr;subst hr;exact⟨rfl,rfl⟩
def l6(f:Nat→Int)(n k:Nat):List (List PV):=(List.range n).map fun i=>cB (if i<k then f i else 0)
theorem jG(f:Nat→Int)(n k:Nat):(l6 f n k).length=n:=by simp[l6]
theorem yO(f:Nat→Int)(n:Nat):List.replicate n (cB 0)=l6 f n 0:=by
 apply List.ext_getElem?;intro i;simp[l6,List.getElem?_replicate];by_cases h:i<n<;>simp[h]
theorem iK{f:Nat→Int}{n k i:Nat}(hi:i<n):(l6 f n k)[i]? =some (cB (if i<k then f i else 0)):=by
 simp[l6,List.getElem?_range hi]
theorem AZ{f:Nat→Int}{n k:Nat}(hk:k<n):(l6 f n k).set k (cB (f k))=l6 f n (k+1):=by
 apply List.ext_getElem?;intro i;rw[List.getElem?_set];by_cases h:k=i
 ·subst h;rw[if_pos rfl,jG,if_pos hk,iK hk,if_pos (by omega)]
 ·rw[if_neg h];by_cases hi:i<n
  ·rw[iK hi,iK hi];by_cases h2:i<k
   ·rw[if_pos h2,if_pos (by omega)]
   ·rw[if_neg h2,if_neg (by omega)]
  ·rw[List.getElem?_eq_none (by rw[jG];omega),List.getElem?_eq_none (by rw[jG];omega)]
theorem A0{f:Nat→Int}{l:List Int}{k:Nat}(hk:l.length≤k)(h:∀i,i<l.length→f i=l.getD i 0):l6 f l.length k=l.map cB:=by
 apply List.ext_getElem?;intro i;by_cases hi:i<l.length
 ·rw[iK hi,if_pos (by omega),h i hi,List.getElem?_map,List.getElem?_eq_getElem hi,List.getD_eq_getElem?_getD,List.getElem?_eq_getElem hi];all_goals rfl
 ·rw[List.getElem?_eq_none (by rw[jG];omega),List.getElem?_eq_none (by simp;omega)]
def ml(a:Int):List Int→List Int
 | []=> []
 | v::r=>a::ml (IntKind.i64.wrap (a+v)) r
theorem l7:∀(a:Int) (vs:List Int),(ml a vs).length=vs.length
 | _,[]=>rfl
 | a,v::r=>by simp[ml,l7 _ r]
theorem A1:∀(vs:List Int) (a:Int) (k:Nat),k+1<vs.length→(ml a vs).getD (k+1) 0=IntKind.i64.wrap ((ml a vs).getD k 0+vs.getD k default)
 | [],a,k,h=>by simp at h
 | [v],a,k,h=>by simp at h
 | v::w::r,a,0,h=>by simp[ml]
 | v::w::r,a,k+1,h=>by
  have:=A1 (w::r) (IntKind.i64.wrap (a+v)) k (by simpa using h);show(ml (IntKind.i64.wrap (a+v)) (w::r)).getD (k+1) 0=IntKind.i64.wrap ((ml (IntKind.i64.wrap (a+v)) (w::r)).getD k 0+(w::r).getD k default);exact this
theorem Ul(vs:List Int)(hl:vs.length≤1000000):JJ 71 [.p (.sl 1 (vs.map cB))] [] (.p (.sl 1 ((ml 0 vs).map cB))) []:=by
 refine JJ.intro Tryz.func71 rfl rfl rfl rfl ?_;refine⟨_,al _ _,?_⟩;refine⟨rfl,⟨by omega,by show(vs.length:Int)*8≤_;omega⟩,vs.length,rfl,?_⟩;generalize hf:(fun i=>(ml 0 vs).getD i 0)=f;refine⟨[0,3,4],[.own 7],fun m S=>∃k:Nat,m=vs.length-k∧1≤k∧S=St.mk' [(0,.p (.sl 1 (vs.map cB))),(3,.bs (.own 7) 1 vs.length),(4,nI k)] [(.own 7,.rows 1 (l6 f vs.length k))],⟨vs.length-1,1,rfl,by omega,?_⟩,?_⟩
 ·have e:List.replicate vs.length (cB 0)=l6 f vs.length 1:=by
   rw[yO f];apply List.ext_getElem?;intro i;by_cases hi:i<vs.length
   ·rw[iK hi,iK hi];by_cases h0:i<1
    ·have:i=0:=by omega
     subst this;rw[if_pos h0,if_neg (by omega),←hf];cases vs with
     | nil=>simp at hi
     | cons v r=>rfl
    ·rw[if_neg h0,if_neg (by omega)]
   ·rw[List.getElem?_eq_none (by rw[jG];omega),List.getElem?_eq_none (by rw[jG];omega)]
  rw[←e];all_goals rfl
 rintro m S ⟨k,rfl,hk,rfl⟩;refine⟨_,al _ _,?_⟩;refine ab (fun h=>?_) (fun h=>?_)
 ·have aN:k<vs.length:=by simpa using h
  refine⟨rfl,?_⟩;refine⟨_,wrap_i64 (by omega) (by omega),?_⟩;refine⟨⟨by omega,by omega⟩,?_⟩;refine⟨cB (f (k-1)),?_,?_⟩
  ·show(l6 f vs.length k)[((k:Int)-1).toNat]? =some _;rw[show((k:Int)-1).toNat=k-1 by omega,iK (by omega),if_pos (by omega)]
  refine⟨_,wrap_i64 (by omega) (by omega),?_⟩;refine⟨_,cZ cB vs ((k:Int)-1) (by omega) (by omega),?_⟩;refine⟨f k,?_,?_⟩
  ·rw[show((k:Int)-1).toNat=k-1 by omega,←hf];have:=A1 vs 0 (k-1) (by omega);rw[show k-1+1=k by omega]at this;exact this.symm
  refine⟨⟨by omega,by omega⟩,?_⟩;refine⟨_,iK (i:=k) aN,l6 f vs.length (k+1),AZ aN,?_⟩;refine⟨_,wrap_i64 (by omega) (by omega),?_⟩;exact⟨vs.length-(k+1),by omega,k+1,rfl,by omega,rfl⟩
 ·have pj:vs.length≤k:=by simp at h;omega
  refine⟨by rw[jG],?_,rfl⟩;have e:=A0 (f:=f) (l:=ml 0 vs) (k:=k) (by rw[l7];exact pj) (fun i _=>by rw[←hf]);rw[l7]at e;rw[e]
open Go.Proofs
def aD.oV(e:aD):Int:=if e.err≠0∨e.Kind=3 then 0 else if e.Value.ok then e.Value.wC else 0
theorem QV(es:List aD)(hl:es.length≤1000000)(hw:∀e∈es,e.wf):JJ 204 [.p (.sl 13 (es.map aD.enc))] [] (.p (.sl 1 ((es.map aD.oV).map cB))) []:=by
 refine JJ.intro Tryz.func204 rfl rfl rfl rfl ?_;refine⟨_,al _ _,?_⟩;refine⟨rfl,⟨by omega,by show(es.length:Int)*8≤_;omega⟩,es.length,rfl,?_⟩;generalize hf:(fun i=>(es.getD i default).oV)=f;refine⟨_,al _ _,?_⟩;refine⟨[3,9,10,11],[.own 8],fun m S=>∃k:Nat,m=es.length-k∧k≤es.length∧S=St.mk' [(3,.bs (.own 8) 1 es.length),(9,.p (.sl 13 (es.map aD.enc))),(10,nI es.length),(11,nI k)] [(.own 8,.rows 1 (l6 f es.length k))],⟨es.length,0,rfl,by omega,?_⟩,?_⟩
 ·rw[←yO];all_goals rfl
 rintro m S ⟨k,rfl,hk,rfl⟩;refine ab (fun h=>?_) (fun h=>?_)
 ·have aN:k<es.length:=by simpa using h
  refine⟨_,ao _ _ _ aN,?_⟩;have hm:es.getD k default∈es:=by rw[List.getD_eq_getElem?_getD,List.getElem?_eq_getElem aN];exact List.getElem_mem aN
  have Nw:=hw _ hm;refine⟨rfl,?_⟩;refine⟨_,Qx _ Nw.aE.1 Nw.cQ.1 Nw.bz.1,?_⟩;refine⟨⟨by omega,by omega⟩,?_⟩;have hfk:(es.getD k default).oV=f k:=by rw[←hf]
  refine⟨_,iK (i:=k) aN,l6 f es.length (k+1),?_,?_⟩
  ·rw[←AZ aN,←hfk];all_goals rfl
  refine⟨_,wrap_i64 (by omega) (by omega),?_⟩;exact⟨es.length-(k+1),by omega,k+1,rfl,by omega,rfl⟩
 ·have pj:k=es.length:=by simp at h;omega
  subst pj;refine⟨by rw[jG],?_,rfl⟩;have e:=A0 (f:=f) (l:=es.map aD.oV) (k:=es.length) (by simp) (fun i hi=>by
   rw[←hf];simp at hi;simp[List.getElem?_eq_getElem hi,List.getD_eq_getElem?_getD])
  rw[List.length_map]at e;rw[e]
def yP(n:Int)(k:Nat)(e:aD):Bool:=bif(e.Kind==3)then(bif decide ((k:Int)>0)then true else decide (n>1))else false
def qS(n:Int):Nat→List aD→Int
 | _,[]=>0
 | k,e::r=>if e.err≠0 then e.err else if yP n k e=true then 11 else qS n (k+1) r
def qT(v:ax):List Int×Int:=
 if(fL v.eH (v.ak.map aD.oV)).2≠0 then([],(fL v.eH (v.ak.map aD.oV)).2)
 else if(CP v.eH (v.ak.map aD.oV)).2≠0 then([],21)else((fL v.eH (v.ak.map aD.oV)).1,0)
def yQ(v:ax):List Int×Int:=if qS v.ak.length 0 v.ak≠0 then([],qS v.ak.length 0 v.ak)else qT v
def Nx(r:List Int×Int):AV:= .dE [.p (.sl 1 (r.1.map cB)),nI r.2]
theorem QW(v:ax)(hl:v.ak.length≤128)(hw:v.wf):JJ 177 [.agg v.enc] [] (Nx (yQ v)) []:=by
 refine JJ.intro Tryz.func177 rfl rfl rfl rfl ?_;unfold yQ;generalize hR:qS v.ak.length 0 v.ak=R;refine⟨_,al _ _,?_⟩;refine⟨[1,2,3,13,14,15],[.own 1],fun m S=>∃k:Nat,m=v.ak.length-k∧k≤v.ak.length∧qS v.ak.length k (v.ak.drop k)=R∧
  S=St.mk' [(1,.ptr (.own 1) 0),(2,.own 1 []),(3,nI 0),(13,.p (.sl 13 (v.ak.map aD.enc))),(14,nI v.ak.length),(15,nI k)] [(.own 1,.pure 91 v.enc)],⟨v.ak.length,0,rfl,by omega,hR,rfl⟩,?_⟩
 rintro m S ⟨k,rfl,hk,hr,rfl⟩;refine ab (fun h=>?_) (fun h=>?_)
 ·have aN:k<v.ak.length:=by simpa using h
  refine⟨_,ao _ _ _ aN,?_⟩;generalize ht:v.ak.getD k default=e;have QX:e∈v.ak:=by rw[←ht,List.getD_eq_getElem?_getD,List.getElem?_eq_getElem aN];exact List.getElem_mem aN
  have Nw:=hw.ak.2 _ QX;have hd:v.ak.drop k=e::v.ak.drop (k+1):=by
   rw[List.drop_eq_getElem_cons aN,←ht,List.getD_eq_getElem?_getD,List.getElem?_eq_getElem aN];rfl
  rw[hd]at hr;unfold qS at hr;refine⟨rfl,?_⟩;refine⟨_,vq e Nw.aE.1 Nw.cQ.1 Nw.bz.1,?_⟩;refine ab (fun h=>?_) (fun h=>?_)
  ·have h:e.err≠0:=by simpa using h
   rw[if_pos h]at hr;subst hr;rw[if_pos h];exact⟨rfl,rfl⟩
  ·have h:¬e.err≠0:=by simpa using h
   rw[if_neg h]at hr;refine⟨_,fun _ _=>al _ _,?_⟩;refine ab (fun h=>?_) (fun h=>?_)
   ·have h:yP v.ak.length k e=true:=h;rw[if_pos h]at hr;subst hr;exact⟨rfl,rfl⟩
   ·have h:yP v.ak.length k e=false:=h;rw[if_neg (by rw[h];simp)]at hr;refine⟨_,wrap_i64 (by omega) (by omega),?_⟩;exact⟨v.ak.length-(k+1),by omega,k+1,rfl,by omega,hr,rfl⟩
 ·have pj:k=v.ak.length:=by simp at h;omega
  subst pj;rw[List.drop_length]at hr;have hr:(0:Int)=R:=hr;subst hr;rw[if_neg (by simp)];unfold qT;refine⟨_,QV v.ak (by omega) hw.ak.2,?_⟩;refine⟨_,Iu v.eH (v.ak.map aD.oV),?_⟩;refine ab (fun h=>?_) (fun h=>?_)
  ·rw[if_pos (by simpa using h)];exact⟨rfl,rfl⟩
  ·rw[if_neg (by simpa using h)];refine⟨_,QR v.eH (v.ak.map aD.oV),?_⟩;refine ab (fun h=>?_) (fun h=>?_)
   ·rw[if_pos (by simpa using h)];exact⟨rfl,rfl⟩
   ·rw[if_neg (by simpa using h)];exact⟨rfl,rfl⟩
open Go.Proofs
def yR(n:Int):Bool:=bif decide (n<1)then true else decide (n>15482880)
def dD(v:ax)(n:Int):List Int×Int:=
 if yR n=true then([],2)else if(v.ak.length:Int)>128 then([],9)
 else if(bif v.whole then((v.ak.length:Int)==1)else false)=true then
  (if(v.ak.getD 0 default).err≠0 then([],(v.ak.getD 0 default).err)else if(v.eH.length:Int)>0 then([],21)else([n],0))
 else yQ v
theorem QY(v:ax)(n:Int)(hw:v.wf):JJ 126 [.agg v.enc,nI n] [] (Nx (dD v n)) []:=by
 refine JJ.intro Tryz.func126 rfl rfl rfl rfl ?_;unfold dD;refine ab (fun h=>?_) (fun h=>?_)
 ·have h:yR n=true:=h;rw[if_pos h];exact⟨rfl,rfl⟩
 ·have h:yR n=false:=h;rw[if_neg (by rw[h];simp)];refine⟨_,al _ _,?_⟩;refine ab (fun h=>?_) (fun h=>?_)
  ·rw[if_pos (of_decide_eq_true h)];exact⟨rfl,rfl⟩
  ·have hl:=of_decide_eq_false h;rw[if_neg hl];refine⟨_,QT v,?_⟩;refine⟨_,fun _=>al _ _,?_⟩;refine ab (fun h=>?_) (fun h=>?_)
   ·have h:(bif v.whole then((v.ak.length:Int)==1)else false)=true:=h;rw[if_pos h];rw[aR,Bool.and_eq_true]at h;have h1:(v.ak.length:Int)=1:=by simpa using h.2
    have aN:0<v.ak.length:=by omega
    refine⟨_,ao _ _ 0 aN,?_⟩;generalize ht:v.ak.getD 0 default=e;have QX:e∈v.ak:=by rw[←ht,List.getD_eq_getElem?_getD,List.getElem?_eq_getElem aN];exact List.getElem_mem aN
    have Nw:=hw.ak.2 _ QX;refine⟨_,vq e Nw.aE.1 Nw.cQ.1 Nw.bz.1,?_⟩;refine ab (fun h=>?_) (fun h=>?_)
    ·rw[if_pos (by simpa using h)];exact⟨rfl,rfl⟩
    ·rw[if_neg (by simpa using h)];refine⟨_,al _ _,?_⟩;refine ab (fun h=>?_) (fun h=>?_)
     ·rw[if_pos (of_decide_eq_true h)];exact⟨rfl,rfl⟩
     ·rw[if_neg (of_decide_eq_false h)];exact⟨rfl,rfl⟩
   ·have h:(bif v.whole then((v.ak.length:Int)==1)else false)=false:=h;rw[if_neg (by rw[h];simp)];refine⟨_,QW v (by omega) hw,?_⟩;exact⟨rfl,rfl⟩
def yS(r:List Int×Int)(n:Int):Bool:=bif(bif(r.2==0)then decide ((r.1.length:Int)>0)else false)then(ub 0 r.1 !=n)else false
def bu(v:ax)(n:Int):List Int×Int:=
 if yS (dD v n) n=true then([],20)else if(dD v n).2≠0 then([],(dD v n).2)else((dD v n).1,0)
theorem rD(l:List aG):∀(vs:List Int) (k:Nat) (acc:List Int),(fH l k acc vs).1.length≤acc.length+vs.length
 | [],_,_=>by simp[fH]
 | v::r,k,acc=>by
  unfold fH;split
  ·simp
  ·have:=rD l r (k+1) (acc++ [(jU l k v).1]);simp at this ⊢;omega
theorem CQ(l:List aG)(vs:List Int):(fL l vs).1.length≤vs.length:=by
 unfold fL;split
 ·simp
 ·have:=rD l vs 0 [];simpa using this
theorem uc(v:ax)(n:Int):(dD v n).1.length≤128:=by
 unfold dD yQ qT;have h:=CQ v.eH (v.ak.map aD.oV);rw[List.length_map]at h;split
 ·simp
 ·split
  ·simp
  ·split
   ·split
    ·simp
    ·split<;>simp
   ·split
    ·simp
    ·split
     ·simp
     ·split
      ·simp
      ·simp only;omega
theorem oi(v:ax)(n:Int):(bu v n).1.length≤128:=by
 have:=uc v n;unfold bu;split
 ·simp
 ·split
  ·simp
  ·exact this
theorem G2(v:ax)(n:Int)(hw:v.wf):JJ 70 [.agg v.enc,nI n] [] (Nx (bu v n)) []:=by
 refine JJ.intro Tryz.func70 rfl rfl rfl rfl ?_;have hlen:=uc v n;unfold bu;refine⟨_,QY v n hw,?_⟩;generalize dD v n=r at hlen;obtain⟨ls,e⟩:=r;have fw:128≤maxLen:=by decide
 refine⟨_,fun _=>al _ _,?_⟩;refine⟨_,fun _=>QU ls (by simp at hlen;omega),?_⟩;refine ab (fun h=>?_) (fun h=>?_)
 ·have h:yS (ls,e) n=true:=h;rw[if_pos h];refine ab (fun h=>?_) (fun h=>?_)
  ·exact⟨rfl,rfl⟩
  ·cases h
 ·have h:yS (ls,e) n=false:=h;rw[if_neg (by rw[h];simp)];refine ab (fun h=>?_) (fun h=>?_)
  ·rw[if_pos (by simpa using h)];exact⟨rfl,rfl⟩
  ·rw[if_neg (by simpa using h)];exact⟨rfl,rfl⟩
def cm(v:ax)(n:Int):List Int×Int:=if(bu v n).2≠0 then([],(bu v n).2)else(ml 0 (bu v n).1,0)
theorem yT(v:ax)(n:Int)(hw:v.wf):JJ 39 [.agg v.enc,nI n] [] (Nx (cm v n)) []:=by
 refine JJ.intro Tryz.func39 rfl rfl rfl rfl ?_;unfold cm;refine⟨_,G2 v n hw,?_⟩;refine ab (fun h=>?_) (fun h=>?_)
 ·rw[if_pos (by simpa using h)];exact⟨rfl,rfl⟩
 ·rw[if_neg (by simpa using h)];refine⟨_,Ul (bu v n).1 (by have:=oi v n;omega),?_⟩;exact⟨rfl,rfl⟩
theorem Um(v:ax)(n:Int)(hw:v.wf):JJ 75 [.agg v.enc,nI n] [] (Nx (bu v n)) []:=by
 refine JJ.intro Tryz.func75 rfl rfl rfl rfl ?_;refine⟨_,G2 v n hw,?_⟩;exact⟨rfl,rfl⟩
theorem QZ(v:ax)(n:Int)(hw:v.wf):JJ 139 [.agg v.enc,nI n] [] (nI (bu v n).2) []:=by
 refine JJ.intro Tryz.func139 rfl rfl rfl rfl ?_;refine⟨_,G2 v n hw,?_⟩;exact⟨rfl,rfl⟩
open Go.Proofs
theorem CR:∃cs:List PV,JJ 170 [] [] (.agg cs) []∧cs.length=63:=by
 apply Exists.intro;apply And.intro
 ·refine JJ.intro Tryz.func170 rfl rfl rfl rfl ?_;refine⟨rfl,?_⟩;exact⟨rfl,rfl⟩
 ·rfl
noncomputable def xn:List PV:=CR.choose
theorem Q0:JJ 170 [] [] (.agg xn) []:=CR.choose_spec.1
theorem EY:xn.length=63:=CR.choose_spec.2
def ef(n:Int):Bool:=bif decide (n<1)then true else decide (n>9)
theorem Q1(n:Int):∃r:List PV,r.length=7∧JJ 117 [nI n] [] (.dE [.agg r,nI (if ef n=true then 11 else 0)]) []:=by
 by_cases hb:ef n=true
 ·rw[if_pos hb];refine⟨[.str [],.int .u8 0,.int .i64 0,.int .i64 0,.int .i64 0,.int .i64 0,.int .i64 0],rfl,?_⟩;refine JJ.intro Tryz.func117 rfl rfl rfl rfl ?_;refine ab (fun h=>?_) (fun h=>?_)
  ·refine⟨rfl,?_⟩;exact⟨rfl,rfl⟩
  ·have h:ef n=false:=h;rw[h]at hb;cases hb
 ·rw[if_neg hb];have iE:ef n=false:=by simpa using hb
  have hn:1≤n∧n≤9:=by
   unfold ef at iE;rw[aX]at iE;simp at iE;omega
  have hlen:(fe (gn xn ((n-1).toNat*7)) 7).length=7:=by
   rw[gf,jb,List.length_take,List.length_drop,EY];omega
  refine⟨fe (gn xn ((n-1).toNat*7)) 7,hlen,?_⟩;refine JJ.intro Tryz.func117 rfl rfl rfl rfl ?_;refine ab (fun h=>?_) (fun h=>?_)
  ·have h:ef n=true:=h;exact absurd h hb
  ·refine⟨_,Q0,?_⟩;refine⟨_,wrap_i64 (by omega) (by omega),?_⟩;refine⟨_,⟨by omega,by omega,rfl⟩,?_⟩;refine⟨hlen,?_⟩;exact⟨rfl,rfl⟩
theorem G3(n:Int):JJ 62 [nI n] [] (nI (if ef n=true then 11 else 0)) []:=by
 obtain⟨r,hr,hj⟩:=Q1 n;refine JJ.intro Tryz.func62 rfl rfl rfl rfl ?_;refine⟨_,hj,?_⟩;refine⟨hr,?_⟩;exact⟨rfl,rfl⟩
open Go.Proofs
def ae.Q2(s:ae)(m:Int):aj:=s.aa.getD m.toNat default
def ae.Wi(s:ae)(m c:Int):aI:=(s.Q2 m).Cells.getD c.toNat default
def ae.vAt(s:ae)(m c v:Int):ax:=(s.Wi m c).ai.getD v.toNat default
def Wj(s:ae)(m:Int):Bool:=bif decide (m<0)then true else decide (m≥s.aa.length)
def Wk(s:ae)(m c:Int):Bool:=bif Wj s m then true else decide (c<0)
def Wl(s:ae)(m c:Int):Bool:=bif Wk s m c then true else decide (c≥(s.Q2 m).Cells.length)
def Wm(s:ae)(m c v:Int):Bool:=bif Wl s m c then true else decide (v<0)
def Ny(s:ae)(m c v:Int):Bool:=bif Wm s m c v then true else decide (v≥(s.Wi m c).ai.length)
theorem ss{s:ae}{m:Int}(h:Wj s m=false):0≤m∧m<s.aa.length:=by
 unfold Wj at h;rw[aX]at h;simp at h;omega
theorem qf{s:ae}{m c:Int}(h:Wk s m c=false):Wj s m=false∧0≤c:=by
 unfold Wk at h;rw[aX,Bool.or_eq_false_iff]at h;exact⟨h.1,by simpa using h.2⟩
theorem su{s:ae}{m c:Int}(h:Wl s m c=false):Wk s m c=false∧c<(s.Q2 m).Cells.length:=by
 unfold Wl at h;rw[aX,Bool.or_eq_false_iff]at h;exact⟨h.1,by simpa using h.2⟩
theorem sx{s:ae}{m c v:Int}(h:Wm s m c v=false):Wl s m c=false∧0≤v:=by
 unfold Wm at h;rw[aX,Bool.or_eq_false_iff]at h;exact⟨h.1,by simpa using h.2⟩
theorem G4{s:ae}{m c v:Int}(h:Ny s m c v=false):Wm s m c v=false∧v<(s.Wi m c).ai.length:=by
 unfold Ny at h;rw[aX,Bool.or_eq_false_iff]at h;exact⟨h.1,by simpa using h.2⟩
def cO(s:ae)(m c v:Int):List aD:=if Ny s m c v=true then []else(s.vAt m c v).ak
theorem xo(s:ae)(m c v:Int):JJ 153 [.agg s.enc,nI m,nI c,nI v] [] (.p (.sl 13 ((cO s m c v).map aD.enc))) []:=by
 refine JJ.yk Tryz.func153 rfl rfl rfl rfl ?_;unfold cO;refine⟨_,fun _=>al _ _,?_⟩;refine⟨_,fun h=>cZ aj.enc s.aa m (ss (qf h).1).1 (ss (qf h).1).2,?_⟩;refine⟨_,fun _=>al _ _,?_⟩;refine⟨_,fun h=>cZ aj.enc s.aa m (ss (qf (su (sx h).1).1).1).1 (ss (qf (su (sx h).1).1).1).2,?_⟩;refine⟨_,fun h=>cZ aI.enc (s.Q2 m).Cells c (qf (su (sx h).1).1).2 (su (sx h).1).2,?_⟩;refine⟨_,fun _=>al _ _,?_⟩;refine ab (fun h=>?_) (fun h=>?_)
 ·have h:Ny s m c v=true:=h;rw[if_pos h];exact⟨rfl,rfl⟩
 ·have h:Ny s m c v=false:=h;rw[if_neg (by rw[h];simp)];have h4:=(G4 h).1;have h3:=(sx h4).1;have h2:=(su h3).1;have h1:=(qf h2).1;refine⟨_,cZ aj.enc s.aa m (ss h1).1 (ss h1).2,?_⟩;refine⟨_,cZ aI.enc (s.Q2 m).Cells c (qf h2).2 (su h3).2,?_⟩;refine⟨_,cZ ax.enc (s.Wi m c).ai v (sx h4).2 (G4 h).2,?_⟩;exact⟨rfl,rfl⟩
open Go.Proofs
theorem Iw(a b c d:Int):JJ 154 [nI a,nI b,nI c,nI d] [] (.agg (bt.mk 4 0 b a c d 0).enc) []:=by
 refine JJ.intro Tryz.func154 rfl rfl rfl rfl ?_;refine⟨rfl,?_⟩;exact⟨rfl,rfl⟩
def kK(s:ae)(p:bt):Bool:=bif decide (p.Event<0)then true else decide (p.Event≥(cO s p.bc p.bA p.cj).length)
def eK(s:ae)(p:bt):Int:=if(p.Kind !=4)=true then 11 else if kK s p=true then 2 else 0
theorem Ix(s:ae)(p:bt):JJ 152 [.agg s.enc,.agg p.enc] [] (nI (eK s p)) []:=by
 refine JJ.intro Tryz.func152 rfl rfl rfl rfl ?_;unfold eK;refine ab (fun h=>?_) (fun h=>?_)
 ·have h:(p.Kind !=4)=true:=h;rw[if_pos h];exact⟨rfl,rfl⟩
 ·have h:(p.Kind !=4)=false:=h;rw[if_neg (by rw[h];simp)];refine⟨rfl,?_⟩;refine⟨_,fun _=>xo s p.bc p.bA p.cj,?_⟩;refine⟨_,fun _=>al _ _,?_⟩;refine ab (fun h=>?_) (fun h=>?_)
  ·have h:kK s p=true:=h;rw[if_pos h];exact⟨rfl,rfl⟩
  ·have h:kK s p=false:=h;rw[if_neg (by rw[h];simp)];exact⟨rfl,rfl⟩
open Go.Proofs
def yU(i:cP):Bool:=bif(decide (0≤i.Site)&&decide (i.Site≤99))then(decide (1≤i.Number)&&decide (i.Number≤1073741824))else false
theorem Nz(i:cP):JJ 81 [.agg i.enc] [] (nB (yU i)) []:=by
 refine JJ.intro Tryz.func81 rfl rfl rfl rfl ?_;refine⟨_,ir i.Site 0 99,?_⟩;refine⟨_,fun _=>ir i.Number 1 1073741824,?_⟩;exact⟨rfl,rfl⟩
def vz(n:Int):List cP→Int
 | []=>0
 | i::r=>if(i.Site==n)=true then i.Number else vz n r
theorem Un(s:ae)(n:Int)(hw:s.fB.length≤maxLen):JJ 82 [.agg s.enc,nI n] [] (nI (vz n s.fB)) []:=by
 have fw:maxLen≤9223372036854775807:=by decide
 refine JJ.intro Tryz.func82 rfl rfl rfl rfl ?_;obtain⟨R,hR⟩:∃R,vz n s.fB=R:=⟨_,rfl⟩
 rw[hR];refine⟨_,al _ _,?_⟩;refine⟨[1,8,9,10],[],fun x S=>∃k:Nat,x=s.fB.length-k∧k≤s.fB.length∧vz n (s.fB.drop k)=R∧S=St.mk' [(1,nI n),(8,.p (.sl 2 (s.fB.map cP.enc))),(9,nI s.fB.length),(10,nI k)] [],⟨s.fB.length,0,rfl,by omega,hR,rfl⟩,?_⟩;rintro x S ⟨k,rfl,hk,hr,rfl⟩;refine ab (fun h=>?_) (fun h=>?_)
 ·have aN:k<s.fB.length:=by simpa using h
  have bW:=ao cP.enc s.fB k aN;have hd:s.fB.drop k=s.fB.getD k default::s.fB.drop (k+1):=by
   rw[List.drop_eq_getElem_cons aN,List.getD_eq_getElem?_getD,List.getElem?_eq_getElem aN];rfl
  rw[hd]at hr;obtain⟨i,hi⟩:∃i,i=s.fB.getD k default:=⟨_,rfl⟩
  rw[←hi]at bW hr;unfold vz at hr;refine⟨_,bW,?_⟩;refine⟨rfl,?_⟩;refine ab (fun h=>?_) (fun h=>?_)
  ·have h:(i.Site==n)=true:=h;rw[if_pos h]at hr;subst hr;exact⟨rfl,rfl⟩
  ·have h:(i.Site==n)=false:=h;rw[if_neg (by rw[h];simp)]at hr;refine⟨_,wrap_i64 (by omega) (by omega),?_⟩;exact⟨s.fB.length-(k+1),by omega,k+1,rfl,by omega,hr,rfl⟩
 ·have pj:k=s.fB.length:=by simp at h;omega
  subst pj;rw[List.drop_length]at hr;have hr:(0:Int)=R:=hr;subst hr;exact⟨rfl,rfl⟩
open Go.Proofs
theorem aq.nj{a b:aq}(h:a.On=b.On∧a.zH=b.zH∧a.Number=b.Number∧a.Part=b.Part∧a.bA=b.bA∧a.cj=b.cj∧a.Event.Site=b.Event.Site∧a.Event.Number=b.Event.Number∧a.Head=b.Head):a=b:=by
 obtain⟨_,_,_,_,_,_,⟨_,_⟩,_⟩:=a;obtain⟨_,_,_,_,_,_,⟨_,_⟩,_⟩:=b;simp only at h;simp_all
theorem Uo(l m:List aq)(hl:l.length≤maxLen):JJ 20 [.p (.sl 9 (l.map aq.enc)),.p (.sl 9 (m.map aq.enc))] [] (nB (decide (l=m))) []:=by
 refine JJ.intro Tryz.func20 rfl rfl rfl rfl ?_;have fw:maxLen≤9223372036854775807:=by decide
 refine⟨_,al _ _,?_⟩;refine⟨_,al _ _,?_⟩;refine ab (fun h=>?_) (fun h=>?_)
 ·have e:decide (l=m)=false:=by
   rw[decide_eq_false_iff_not];intro e;subst e;simp at h
  rw[e];exact⟨rfl,rfl⟩
 ·have GU:l.length=m.length:=by simp at h;omega
  refine⟨[0,1,5],[],fun n S=>∃k:Nat,k≤l.length∧n=l.length-k∧l.take k=m.take k∧S=St.mk' [(0,.p (.sl 9 (l.map aq.enc))),(1,.p (.sl 9 (m.map aq.enc))),(5,nI k)] [],⟨_,0,by omega,rfl,by simp,rfl⟩,?_⟩;rintro n S ⟨k,hk,rfl,hf,rfl⟩;refine⟨_,al _ _,?_⟩;refine ab (fun h=>?_) (fun h=>?_)
  ·have h:=of_decide_eq_true h;have ph:k<l.length:=by omega
   have jJ:k<m.length:=by omega
   refine⟨rfl,?_⟩;refine⟨_,ao _ _ _ ph,?_⟩;refine⟨_,ao _ _ _ jJ,?_⟩;refine ab (fun h=>?_) (fun h=>?_)
   ·have h2:l.getD k default≠m.getD k default:=by
     intro e;rw[e]at h;simp at h
    have e:decide (l=m)=false:=decide_eq_false (iv h2);rw[e];exact⟨rfl,rfl⟩
   ·have h2:l.getD k default=m.getD k default:=aq.nj (by simpa using h);refine⟨_,wrap_i64 (by omega) (by omega),?_⟩;exact⟨_,by omega,k+1,by omega,rfl,(fK ph jJ).2 ⟨hf,h2⟩,rfl⟩
  ·have h:=of_decide_eq_false h;obtain rfl:k=l.length:=by omega
   have e:decide (l=m)=true:=decide_eq_true (iu GU hf);rw[e];exact⟨rfl,rfl⟩
open Go.Proofs
theorem qg(n:Int):JJ 23 [nI n] [] (.agg (cP.mk 1 n).enc) []:=by
 refine JJ.intro Tryz.func23 rfl rfl rfl rfl ?_;refine⟨rfl,?_⟩;exact⟨rfl,rfl⟩
def EZ(a:Int):List aU→Int
 | []=>a
 | s::r=>EZ (IntKind.i64.wrap (a+s.Text.length)) r
def l8(a:Int):List aD→Int
 | []=>a
 | e::r=>l8 (EZ a e.bz) r
theorem nn{α:Type}[Inhabited α]{l:List α}{k:Nat}(h:k<l.length):l.drop k=l.getD k default::l.drop (k+1):=by
 rw[List.drop_eq_getElem_cons h,List.getD_eq_getElem?_getD,List.getElem?_eq_getElem h];rfl
set_option maxHeartbeats 1000000 in
theorem Up(v:ax)(hw:v.wf):JJ 25 [.agg v.enc] [] (nI (l8 0 v.ak)) []:=by
 have fw:maxLen≤9223372036854775807:=by decide
 have hE:=hw.ak.1;refine JJ.intro Tryz.func25 rfl rfl rfl rfl ?_;obtain⟨R,hR⟩:∃R,l8 0 v.ak=R:=⟨_,rfl⟩
 rw[hR];refine⟨[1,3,4],[.own 1],fun x S=>∃(k:Nat) (a:Int),x=v.ak.length-k∧k≤v.ak.length∧l8 a (v.ak.drop k)=R∧S=St.mk' [(1,.ptr (.own 1) 0),(3,nI a),(4,nI k)] [(.own 1,.pure 91 v.enc)],⟨_,0,0,rfl,by omega,hR,rfl⟩,?_⟩;rintro x S ⟨k,a,rfl,hk,hr,rfl⟩;refine⟨_,al _ _,?_⟩;refine ab (fun h=>?_) (fun h=>?_)
 ·have aN:k<v.ak.length:=by simpa using h
  have bW:=ao aD.enc v.ak k aN;have QX:=av aN;rw[nn aN]at hr;obtain⟨e,he⟩:∃e,e=v.ak.getD k default:=⟨_,rfl⟩
  rw[←he]at bW hr QX;have hL:=(hw.ak.2 e QX).bz.1;unfold l8 at hr;obtain⟨Q,hQ⟩:∃Q,EZ a e.bz=Q:=⟨_,rfl⟩
  rw[hQ]at hr;refine⟨[1,3,4,5],[.own 1],fun x S=>∃(j:Nat) (b:Int),j≤e.bz.length∧x=e.bz.length-j∧EZ b (e.bz.drop j)=Q∧S=St.mk' [(1,.ptr (.own 1) 0),(3,nI b),(4,nI k),(5,nI j)] [(.own 1,.pure 91 v.enc)],⟨_,0,a,by omega,rfl,hQ,rfl⟩,?_⟩;rintro x S ⟨j,b,hj,rfl,hq,rfl⟩;refine⟨_,bW,?_⟩;refine⟨_,al _ _,?_⟩;refine ab (fun h=>?_) (fun h=>?_)
  ·have fl:j<e.bz.length:=by simpa using h
   have wD:=ao aU.enc e.bz j fl;rw[nn fl]at hq;obtain⟨s,hs⟩:∃s,s=e.bz.getD j default:=⟨_,rfl⟩
   rw[←hs]at wD hq;unfold EZ at hq;refine⟨_,bW,?_⟩;refine⟨_,wD,?_⟩;refine⟨_,rfl,?_⟩;refine⟨_,wrap_i64 (by omega) (by omega),?_⟩;exact⟨e.bz.length-(j+1),by omega,j+1,_,by omega,rfl,hq,rfl⟩
  ·have Kt:j=e.bz.length:=by simp at h;omega
   subst Kt;rw[List.drop_length]at hq;have hq:b=Q:=hq;subst hq;refine⟨_,wrap_i64 (by omega) (by omega),?_⟩;exact⟨v.ak.length-(k+1),by omega,k+1,b,rfl,by omega,hr,rfl⟩
 ·have pj:k=v.ak.length:=by simp at h;omega
  subst pj;rw[List.drop_length]at hr;have hr:a=R:=hr;subst hr;exact⟨rfl,rfl⟩
open Go.Proofs
def NA:List aU→Bool
 | []=>true
 | s::r=>if(s.Text.length:Int)>300 then false else NA r
def E0(e:aD):Bool:=bif(bif decide ((e.aE.length:Int)>12)then true else decide ((e.cQ.length:Int)>12))then true else decide ((e.bz.length:Int)>12)
def G5:List aD→Bool
 | []=>true
 | e::r=>if E0 e=true then false else if NA e.bz=true then G5 r else false
def z5(v:ax):Bool:=bif G5 v.ak then(bif decide ((v.ak.length:Int)≤20)then decide ((v.eH.length:Int)≤6)else false)else false
set_option maxHeartbeats 1000000 in
theorem Uq(v:ax)(hw:v.wf):JJ 24 [.agg v.enc] [] (nB (z5 v)) []:=by
 have fw:maxLen≤9223372036854775807:=by decide
 have hE:=hw.ak.1;refine JJ.intro Tryz.func24 rfl rfl rfl rfl ?_;unfold z5;obtain⟨R,hR⟩:∃R,G5 v.ak=R:=⟨_,rfl⟩
 rw[hR];refine⟨[1,3],[.own 1],fun x S=>∃k:Nat,x=v.ak.length-k∧k≤v.ak.length∧G5 (v.ak.drop k)=R∧S=St.mk' [(1,.ptr (.own 1) 0),(3,nI k)] [(.own 1,.pure 91 v.enc)],⟨_,0,rfl,by omega,hR,rfl⟩,?_⟩;rintro x S ⟨k,rfl,hk,hr,rfl⟩;refine⟨_,al _ _,?_⟩;refine ab (fun h=>?_) (fun h=>?_)
 ·have aN:k<v.ak.length:=by simpa using h
  have bW:=ao aD.enc v.ak k aN;have QX:=av aN;rw[nn aN]at hr;obtain⟨e,he⟩:∃e,e=v.ak.getD k default:=⟨_,rfl⟩
  rw[←he]at bW hr QX;have hL:=(hw.ak.2 e QX).bz.1;unfold G5 at hr;refine⟨_,bW,?_⟩;refine⟨rfl,?_⟩;refine⟨_,al _ _,?_⟩;refine⟨_,fun _=>al _ _,?_⟩;refine⟨_,fun _=>al _ _,?_⟩;refine ab (fun h=>?_) (fun h=>?_)
  ·have h:E0 e=true:=h;rw[if_pos h]at hr;subst hr;exact⟨rfl,rfl⟩
  ·have h:E0 e=false:=h;rw[if_neg (by rw[h];simp)]at hr;obtain⟨Q,hQ⟩:∃Q,NA e.bz=Q:=⟨_,rfl⟩
   rw[hQ]at hr;refine⟨[1,3,4,5],[.own 1,.own 4],fun x S=>∃j:Nat,j≤e.bz.length∧x=e.bz.length-j∧NA (e.bz.drop j)=Q∧S=St.mk' [(1,.ptr (.own 1) 0),(3,nI k),(4,.ptr (.own 4) 0),(5,nI j)] [(.own 1,.pure 91 v.enc),(.own 4,.pure 111 e.enc)],⟨_,0,by omega,rfl,hQ,rfl⟩,?_⟩;rintro x S ⟨j,hj,rfl,hq,rfl⟩;refine⟨_,al _ _,?_⟩;refine ab (fun h=>?_) (fun h=>?_)
   ·have fl:j<e.bz.length:=by simpa using h
    have wD:=ao aU.enc e.bz j fl;rw[nn fl]at hq;obtain⟨s,hs⟩:∃s,s=e.bz.getD j default:=⟨_,rfl⟩
    rw[←hs]at wD hq;unfold NA at hq;refine⟨_,wD,?_⟩;refine ab (fun h=>?_) (fun h=>?_)
    ·rw[if_pos (of_decide_eq_true h)]at hq;subst hq;rw[if_neg (by simp)]at hr;subst hr;exact⟨rfl,rfl⟩
    ·rw[if_neg (of_decide_eq_false h)]at hq;refine⟨_,wrap_i64 (by omega) (by omega),?_⟩;exact⟨e.bz.length-(j+1),by omega,j+1,by omega,rfl,hq,rfl⟩
   ·have Kt:j=e.bz.length:=by simp at h;omega
    subst Kt;rw[List.drop_length]at hq;have hq:true=Q:=hq;subst hq;rw[if_pos rfl]at hr;refine⟨_,wrap_i64 (by omega) (by omega),?_⟩;exact⟨v.ak.length-(k+1),by omega,k+1,rfl,by omega,hr,rfl⟩
 ·have pj:k=v.ak.length:=by simp at h;omega
  subst pj;rw[List.drop_length]at hr;have hr:true=R:=hr;subst hr;refine⟨_,al _ _,?_⟩;refine⟨_,fun _=>al _ _,?_⟩;exact⟨rfl,rfl⟩
open Go.Proofs
def qh:Nat→Int→Int
 | 0,n=>n
 | f+1,n=>if n>7 then qh f (n-12)else n
def Wn:Nat→Int→Int
 | 0,n=>n
 | f+1,n=>if n< -7 then Wn f (n+12)else n
def E1(i:cH):Bool:=bif(bif(bif decide (i.Steps< -77)then true else decide (i.Steps>77))then true else decide (i.ct< -140))then true else decide (i.ct>140)
def sy(n:Int):Int:=if decide (-7≤n)&&decide (n≤7)then 0 else 2
def jt(n:Int)(i:cH):Int×Int:=
 if sy n≠0 then(0,sy n)else if E1 i=true then(0,2)else(Wn 200 (qh 200 (n+(7*i.ct-12*i.Steps))),0)
theorem A3:∀(f:Nat) (n:Int),n≤7+12*f→qh f n≤7∧(qh f n=n∨ -4≤qh f n)
 | 0,n,h=>by unfold qh;omega
 | f+1,n,h=>by
  unfold qh;split
  ·have:=A3 f (n-12) (by omega);omega
  ·omega
theorem G6(n:Int)(i:cH):JJ 30 [nI n,.agg i.enc] [] (.dE [nI (jt n i).1,nI (jt n i).2]) []:=by
 refine JJ.intro Tryz.func30 rfl rfl rfl rfl ?_;unfold jt;refine⟨_,T9 n,?_⟩;refine ab (fun h=>?_) (fun h=>?_)
 ·have h:sy n≠0:=by simpa using(show(sy n !=0)=true from h)
  rw[if_pos h];exact⟨rfl,rfl⟩
 ·have h:¬sy n≠0:=by simpa using(show(sy n !=0)=false from h)
  rw[if_neg h];have hn: -7≤n∧n≤7:=by
   unfold sy at h;split at h
   ·rename_i hh;simpa using hh
   ·simp at h
  refine ab (fun h=>?_) (fun h=>?_)
  ·have h:E1 i=true:=h;rw[if_pos h];exact⟨rfl,rfl⟩
  ·have h:E1 i=false:=h;rw[if_neg (show ¬E1 i=true by rw[h];simp)];have hi: -77≤i.Steps∧i.Steps≤77∧ -140≤i.ct∧i.ct≤140:=by
    unfold E1 at h;simp only[aX,Bool.or_eq_false_iff]at h;obtain⟨⟨⟨h1,h2⟩,h3⟩,h4⟩:=h;simp at h1 h2 h3 h4;omega
   refine⟨_,wrap_i64 (by omega) (by omega),?_⟩;refine⟨_,wrap_i64 (by omega) (by omega),?_⟩;refine⟨_,wrap_i64 (by omega) (by omega),?_⟩;refine⟨_,wrap_i64 (by omega) (by omega),?_⟩;obtain⟨z,hz⟩:∃z,z=n+(7*i.ct-12*i.Steps):=⟨_,rfl⟩
   rw[←hz];obtain⟨R,hR⟩:∃R,qh 200 z=R:=⟨_,rfl⟩
   have hzr:z≤7+12*200:=by omega
   have Mk:=A3 200 z (by omega);rw[hR]at Mk;rw[hR];refine⟨[0],[],fun x S=>∃(f:Nat) (a:Int),x=f∧a≤7+12*f∧ -2000≤a∧a≤2407∧qh f a=R∧S=St.mk' [(0,nI a)] [],⟨200,200,z,rfl,by omega,by omega,by omega,hR,rfl⟩,?_⟩;rintro x S ⟨f,a,rfl,hf,DI,Gy,hd,rfl⟩;refine ab (fun h=>?_) (fun h=>?_)
   ·have h:=of_decide_eq_true h;obtain⟨f,rfl⟩:∃g,x=g+1:=⟨x-1,by omega⟩
    unfold qh at hd;rw[if_pos h]at hd;refine⟨_,wrap_i64 (by omega) (by omega),?_⟩;exact⟨f,by omega,f,a-12,rfl,by omega,by omega,by omega,hd,rfl⟩
   ·have h:=of_decide_eq_false h;have Lg:a=R:=by
     cases x with
     | zero=>exact hd
     | succ f=>unfold qh at hd;rw[if_neg h]at hd;exact hd
    subst Lg;obtain⟨Q,hQ⟩:∃Q,Wn 200 a=Q:=⟨_,rfl⟩
    rw[hQ];refine⟨[0],[],fun x S=>∃(f:Nat) (b:Int),x=f∧ -7-12*(f:Int)≤b∧b≤7∧ -2000≤b∧Wn f b=Q∧S=St.mk' [(0,nI b)] [],⟨200,200,a,rfl,by omega,by omega,by omega,hQ,rfl⟩,?_⟩;rintro x S ⟨f,b,rfl,hf,hb,iE,hu,rfl⟩;refine ab (fun h=>?_) (fun h=>?_)
    ·have h:=of_decide_eq_true h;obtain⟨f,rfl⟩:∃g,x=g+1:=⟨x-1,by omega⟩
     unfold Wn at hu;rw[if_pos h]at hu;refine⟨_,wrap_i64 (by omega) (by omega),?_⟩;exact⟨f,by omega,f,b+12,rfl,by omega,by omega,by omega,hu,rfl⟩
    ·have h:=of_decide_eq_false h;have hub:b=Q:=by
      cases x with
      | zero=>exact hu
      | succ f=>unfold Wn at hu;rw[if_neg h]at hu;exact hu
     subst hub;exact⟨rfl,rfl⟩
open Go.Proofs
def gR(at_:Int)(c:Int):List ba→Int
 | []=>c
 | x::r=>gR at_ (if x.At≤at_ then x.fq else c) r
def qU(m:aj)(c:Int):Bool:=bif decide (c<0)then true else decide (c≥m.Cells.length)
def fy(c:Int):Int:=if ef c=true then 11 else 0
def yV(m:aj)(cell ud at_:Int):Int×Int:=
 if qU m cell=true then(0,2)else if fy ud≠0 then(0,fy ud)else(gR at_ ud (m.Cells.getD cell.toNat default).bm,0)
theorem Ur(m:aj)(cell ud at_:Int)(hw:m.wf):JJ 29 [.agg m.enc,nI cell,nI ud,nI at_] [] (.dE [nI (yV m cell ud at_).1,nI (yV m cell ud at_).2]) []:=by
 have fw:maxLen≤9223372036854775807:=by decide
 refine JJ.intro Tryz.func29 rfl rfl rfl rfl ?_;unfold yV;refine⟨_,fun _=>al _ _,?_⟩;refine ab (fun h=>?_) (fun h=>?_)
 ·have h:qU m cell=true:=h;rw[if_pos h];exact⟨rfl,rfl⟩
 ·have h:qU m cell=false:=h;rw[if_neg (show ¬qU m cell=true by rw[h];simp)];have hc:0≤cell∧cell<m.Cells.length:=by
   unfold qU at h;rw[aX,Bool.or_eq_false_iff]at h;have h1:=h.1;have h2:=h.2;simp at h1 h2;omega
  refine⟨_,G3 ud,?_⟩;refine ab (fun h=>?_) (fun h=>?_)
  ·have h:fy ud≠0:=by simpa using(show(fy ud !=0)=true from h)
   rw[if_pos h];exact⟨rfl,rfl⟩
  ·have h:¬fy ud≠0:=by simpa using(show(fy ud !=0)=false from h)
   rw[if_neg h];have bW:=cZ aI.enc m.Cells cell hc.1 hc.2;have aN:cell.toNat<m.Cells.length:=by omega
   have Aq:=av aN;obtain⟨c,Wh⟩:∃c,c=m.Cells.getD cell.toNat default:=⟨_,rfl⟩
   rw[←Wh]at bW Aq ⊢;have dP:=(hw.Cells.2 c Aq).bm.1;obtain⟨R,hR⟩:∃R,gR at_ ud c.bm=R:=⟨_,rfl⟩
   rw[hR];refine⟨_,bW,?_⟩;refine⟨_,al _ _,?_⟩;refine⟨[2,3,32,33,34],[],fun x S=>∃(k:Nat) (a:Int),x=c.bm.length-k∧k≤c.bm.length∧gR at_ a (c.bm.drop k)=R∧S=St.mk' [(2,nI a),(3,nI at_),(32,.p (.sl 2 (c.bm.map ba.enc))),(33,nI c.bm.length),(34,nI k)] [],⟨c.bm.length,0,ud,rfl,by omega,hR,rfl⟩,?_⟩;rintro x S ⟨k,a,rfl,hk,hr,rfl⟩;refine ab (fun h=>?_) (fun h=>?_)
   ·have aN:k<c.bm.length:=by simpa using h
    have wD:=ao ba.enc c.bm k aN;rw[nn aN]at hr;obtain⟨y,hy⟩:∃y,y=c.bm.getD k default:=⟨_,rfl⟩
    rw[←hy]at wD hr;unfold gR at hr;refine⟨_,wD,?_⟩;refine⟨rfl,?_⟩;refine ab (fun h=>?_) (fun h=>?_)
    ·rw[if_pos (of_decide_eq_true h)]at hr;refine⟨_,wrap_i64 (by omega) (by omega),?_⟩;exact⟨c.bm.length-(k+1),by omega,k+1,y.fq,rfl,by omega,hr,rfl⟩
    ·rw[if_neg (of_decide_eq_false h)]at hr;refine⟨_,wrap_i64 (by omega) (by omega),?_⟩;exact⟨c.bm.length-(k+1),by omega,k+1,a,rfl,by omega,hr,rfl⟩
   ·have pj:k=c.bm.length:=by simp at h;omega
    subst pj;rw[List.drop_length]at hr;have hr:a=R:=hr;subst hr;exact⟨rfl,rfl⟩
open Go.Proofs
def Code.at_:List Nat→Code→Code
 | [],c=>c
 | 0::r,.seq a _=>Code.at_ r a
 | _::r,.seq _ b=>Code.at_ r b
 | _::r,.loop c=>Code.at_ r c
 | _::r,.block _ c=>Code.at_ r c
 | _::r,.scope c=>Code.at_ r c
 | 0::r,.cond _ a _=>Code.at_ r a
 | _::r,.cond _ _ b=>Code.at_ r b
 | _,c=>c
def cX(f:Func)(p:List Nat):Code:=match f.body with | some c=>Code.at_ p c | none=> .skip
theorem aF{α:Type}[Inhabited α]{l:List α}{k:Nat}(h:k<l.length):l.drop k=l.getD k default::l.drop (k+1):=by
 rw[List.drop_eq_getElem_cons h,List.getD_eq_getElem?_getD,List.getElem?_eq_getElem h];rfl
def cL(len c v:Int):Nat→List Int→List cY
 | _,[]=> []
 | i,[o]=> [⟨c,v,i,o,len⟩]
 | i,o::p::r=>⟨c,v,i,o,p⟩::cL len c v (i+1) (p::r)
theorem mS(len c v:Int):∀(iy:List Int) (i:Nat),(cL len c v i iy).length=iy.length
 | [],_=>rfl
 | [_],_=>rfl
 | _::p::r,i=>by simp[cL,mS len c v (p::r)]
def gj(len:Int)(c:Nat):Nat→List ax→List cY→List cY×Int
 | _,[],acc=>(acc,0)
 | j,v::r,acc=>if v.tY=false then gj len c (j+1) r acc else
   if(cm v len).2≠0 then(acc,(cm v len).2)else gj len c (j+1) r (acc++cL len c j 0 (cm v len).1)
def mT(len:Int):Nat→List aI→List cY→List cY×Int
 | _,[],acc=>(acc,0)
 | k,c::r,acc=>if(gj len k 0 c.ai acc).2≠0 then gj len k 0 c.ai acc else mT len (k+1) r (gj len k 0 c.ai acc).1
def cJ(m:aj):List cY×Int:=
 if m.cI≠0 then([],m.cI)else if(mT m.len 0 m.Cells []).2≠0 then([],(mT m.len 0 m.Cells []).2)else((mT m.len 0 m.Cells []).1,0)
theorem kL(v:ax)(n:Int):(cm v n).1.length≤128:=by
 unfold cm;split
 ·simp
 ·simp only[l7];exact oi v n
theorem yW(len:Int)(c:Nat):∀(l:List ax) (j:Nat) (acc:List cY),(gj len c j l acc).1.length≤acc.length+128*l.length
 | [],j,acc=>by simp[gj]
 | v::r,j,acc=>by
  unfold gj;split
  ·have:=yW len c r (j+1) acc;simp;omega
  ·split
   ·simp
   ·have:=yW len c r (j+1) (acc++cL len c j 0 (cm v len).1);have h2:=kL v len;rw[List.length_append,mS]at this;simp;omega
structure vA(m:aj):Prop where
 cells:m.Cells.length≤1000
 dI:∀c∈m.Cells,c.ai.length≤1000
abbrev Q3(iy:List Int)(k j:Nat)(len:Int)(ac:List cY)(m:aj)(c:aI)(i:Nat):St:=
 St.mk' [(1,.ptr (.own 1) 0),(4,nI len),(5,nI 0),(6,.own 5 (ac.map cY.enc)),(7,nI k),(9,nI j),(11,.p (.sl 1 (iy.map cB))),(21,.p (.sl 2 (m.Cells.map aI.enc))),(22,nI m.Cells.length),(23,nI k),(29,.p (.sl 2 (c.ai.map ax.enc))),(30,nI c.ai.length),(31,nI j),(49,.p (.sl 1 (iy.map cB))),(50,nI iy.length),(51,nI i)] [(.own 1,.pure 82 m.enc)]
set_option maxHeartbeats 2000000 in
theorem XZ{Q:Ex→St→Prop}(iy:List Int)(k j:Nat)(len:Int)(FH:List cY)(m:aj)(c:aI)(i:Nat)(iz:iy.length≤128)(ZF:FH.length≤1000000000)(hi:i≤iy.length)
  (hX:i=iy.length→ ∀v,Q (.exit 4) ((Q3 iy k j len FH m c i).put 52 v))
  (hN:∀s S,i<iy.length→cL len k j i (iy.drop i)=s::cL len k j (i+1) (iy.drop (i+1))→S.bM [1,4,5,6,7,9,11,21,22,23,29,30,31,49,50,51] [.own 1]=Q3 iy k j len (FH++ [s]) m c (i+1)→Q .normal S):
  oK te JJ (cX Tryz.f64 [1,0,1,1,1,0,1,0,0,1,1,0,0,1,1,0,0,1,1,0,0,1,1,1,1,1,1,0,0]) (Q3 iy k j len FH m c i) Q:=by
 refine ab (fun h=>?_) (fun h=>?_)
 ·have aN:i<iy.length:=by simpa using h
  have bW:=ao cB iy i aN;have hd:=aF aN;obtain⟨on,Sl⟩:∃x,x=iy.getD i default:=⟨_,rfl⟩
  rw[←Sl]at bW hd;refine⟨_,bW,?_⟩;refine⟨_,wrap_i64 (by omega) (by omega),?_⟩;refine⟨_,al _ _,?_⟩;have Q4:((FH.map cY.enc).length+1)*40≤140737488355328:=by
   simp;omega
  refine ab (fun h=>?_) (fun h=>?_)
  ·have fl:i+1<iy.length:=by have:=of_decide_eq_true h;omega
   refine⟨_,wrap_i64 (by omega) (by omega),?_⟩;have bW:=ao cB iy (i+1) fl;rw[show(((i+1:Nat):Int))=(i:Int)+1 by omega]at bW;have Sr:=aF fl;obtain⟨off,abi⟩:∃x,x=iy.getD (i+1) default:=⟨_,rfl⟩
   rw[←abi]at bW Sr;refine⟨_,bW,?_⟩;refine⟨Q4,(FH++ [(⟨k,j,i,on,off⟩:cY)]).map cY.enc,by rw[List.map_append];rfl,?_⟩;refine⟨_,wrap_i64 (by omega) (by omega),?_⟩;refine hN ⟨k,j,i,on,off⟩ _ aN ?_ rfl;rw[hd,Sr];all_goals rfl
  ·have fl:¬i+1<iy.length:=by have:=of_decide_eq_false h;omega
   have Mk:iy.drop (i+1)= []:=List.drop_eq_nil_of_le (by omega);refine⟨Q4,(FH++ [(⟨k,j,i,on,len⟩:cY)]).map cY.enc,by rw[List.map_append];rfl,?_⟩;refine⟨_,wrap_i64 (by omega) (by omega),?_⟩;refine hN ⟨k,j,i,on,len⟩ _ aN ?_ rfl;rw[hd,Mk];all_goals rfl
 ·have fQ:i=iy.length:=by simp at h;omega
  exact hX fQ _
open Go.Proofs
def Iy(a b:Int):List ax→Option (Int×Int)
 | []=>some (a,b)
 | v::r=>if z5 v=false then none else
   if(bif decide (IntKind.i64.wrap (a+v.ak.length)>400)then true else decide (IntKind.i64.wrap (b+l8 0 v.ak)>20000))=true then none
   else Iy (IntKind.i64.wrap (a+v.ak.length)) (IntKind.i64.wrap (b+l8 0 v.ak)) r
def ue(c:aI):Bool:=bif decide ((c.bm.length:Int)>5)then true else decide ((c.ai.length:Int)>3)
def G7(a b:Int):List aI→Option (Int×Int)
 | []=>some (a,b)
 | c::r=>if ue c=true then none else match Iy a b c.ai with
  | none=>none
  | some q=>G7 q.1 q.2 r
def yX(m:aj):Bool:=bif(bif decide ((m.Cells.length:Int)>5)then true else decide ((m.iq.length:Int)>5))then true else decide ((m.jE.length:Int)>300)
def Kv(a b:Int):List aj→Bool
 | []=>true
 | m::r=>if yX m=true then false else match G7 a b m.Cells with
  | none=>false
  | some q=>Kv q.1 q.2 r
def uf(p:cf):Bool:=bif decide ((p.aL.length:Int)>5)then true else decide ((p.Name.length:Int)>300)
def Us:List cf→Bool
 | []=>true
 | p::r=>if uf p=true then false else Us r
def smS(s:ae):Bool:=bif(bif(bif(bif decide ((s.ay.length:Int)≤4)then decide ((s.aa.length:Int)≤10)else false)then decide ((s.au.length:Int)≤10)else false)then decide ((s.fB.length:Int)≤5)else false)then decide ((s.yu.length:Int)≤300)else false
def oj(s:ae):Bool:=if Us s.ay=false then false else if Kv 0 0 s.aa=false then false else smS s
open Go.Proofs
theorem NB{t:Nat}{b:Bool}{R:Bool}{S:St}(h:S.get t=nB b)(hb:b=R):pB te [.tmp t] 0 (fun agf bs=>agf=nB R∧bs= []) .ret S:=by
 subst hb;simp only[pB,nF,m4,h,zM,List.range_zero,fj,DR,and_self]
abbrev ZG(k:Nat)(s:ae)(m:aj)(a b:Int)(j i:Nat):St:=
 St.mk' [(1,.ptr (.own 1) 0),(3,nI a),(4,nI b),(6,nI k),(7,.ptr (.own 7) 0),(8,nI j),(9,nI i)] [(.own 1,.pure 27 s.enc),(.own 7,.pure 82 m.enc)]
set_option maxHeartbeats 2000000 in
theorem abj{Q:Ex→St→Prop}(k:Nat)(s:ae)(m:aj)(c:aI)(a b:Int)(j i:Nat)(hw:m.wf)(hj:j<m.Cells.length)(hc:c=m.Cells.getD j default)(hi:i≤c.ai.length)
  (hX:i=c.ai.length→ ∀v1 v2 v3 v4 v5 v6 v7 v8 v9:AV,Q (.exit 6) ((((((((((ZG k s m a b j i).put 88 v1).put 89 v2).put 90 v3).put 91 v4).put 92 v5).put 93 v6).put 94 v7).put 95 v8).put 96 v9))
  (hR:∀S,i<c.ai.length→Iy a b (c.ai.drop i)=none→S.get 2=nB false→Q .ret S)
  (hN:i<c.ai.length→ ∀v S,v=c.ai.getD i default→z5 v=true→Iy a b (v::c.ai.drop (i+1))=Iy (IntKind.i64.wrap (a+v.ak.length)) (IntKind.i64.wrap (b+l8 0 v.ak)) (c.ai.drop (i+1))→
   S.bM [1,3,4,6,7,8,9] [.own 1,.own 7]=ZG k s m (IntKind.i64.wrap (a+v.ak.length)) (IntKind.i64.wrap (b+l8 0 v.ak)) j (i+1)→Q .normal S):
  oK te JJ (cX Tryz.f5 [1,1,1,0,1,0,0,1,0,0,1,1,1,0,0,1,0,0,1,1,0,0]) (ZG k s m a b j i) Q:=by
 have fw:maxLen≤9223372036854775807:=by decide
 have bW:=ao aI.enc m.Cells j hj;have Aq:=av hj;rw[←hc]at bW Aq;have pk:=(hw.Cells.2 c Aq).ai;refine⟨_,bW,?_⟩;refine⟨_,al _ _,?_⟩;refine ab (fun h=>?_) (fun h=>?_)
 ·have aN:i<c.ai.length:=by simpa using h
  have wD:=ao ax.enc c.ai i aN;have X0:=av aN;obtain⟨v,hv⟩:∃v,v=c.ai.getD i default:=⟨_,rfl⟩
  rw[←hv]at wD X0;have wV:=pk.2 v X0;refine⟨_,bW,?_⟩;refine⟨_,wD,?_⟩;refine⟨_,Uq v wV,?_⟩;refine ab (fun h=>?_) (fun h=>?_)
  ·have h:z5 v=false:=by simpa using(show(!z5 v)=true from h)
   refine hR _ aN ?_ rfl;rw[nn aN,←hv];simp[Iy,h]
  ·have h:z5 v=true:=by simpa using(show(!z5 v)=false from h)
   refine⟨rfl,?_⟩;refine⟨_,bW,?_⟩;refine⟨_,wD,?_⟩;refine⟨_,al _ _,?_⟩;refine⟨_,rfl,?_⟩;refine⟨_,bW,?_⟩;refine⟨_,wD,?_⟩;refine⟨_,Up v wV,?_⟩;refine⟨_,rfl,?_⟩;refine ab (fun hb=>?_) (fun hb=>?_)
   ·have hb:(bif decide (IntKind.i64.wrap (a+v.ak.length)>400)then true else decide (IntKind.i64.wrap (b+l8 0 v.ak)>20000))=true:=hb;refine hR _ aN ?_ rfl;rw[nn aN,←hv];unfold Iy;rw[if_neg (by rw[h];simp),if_pos hb]
   ·have hb:(bif decide (IntKind.i64.wrap (a+v.ak.length)>400)then true else decide (IntKind.i64.wrap (b+l8 0 v.ak)>20000))=false:=hb;refine⟨_,wrap_i64 (by omega) (by omega),?_⟩;refine hN aN v _ hv h ?_ rfl
    conv=>lhs;unfold Iy
    rw[if_neg (by rw[h];simp),if_neg (by rw[hb];simp)]
 ·have fQ:i=c.ai.length:=by simp at h;omega
  exact hX fQ _ _ _ _ _ _ _ _ _
open Go.Proofs
abbrev Q5(k:Nat)(s:ae)(m:aj)(a b:Int)(j:Nat):St:=
 St.mk' [(1,.ptr (.own 1) 0),(3,nI a),(4,nI b),(6,nI k),(7,.ptr (.own 7) 0),(8,nI j)] [(.own 1,.pure 27 s.enc),(.own 7,.pure 82 m.enc)]
set_option maxHeartbeats 2000000 in
theorem abk{Q:Ex→St→Prop}(k:Nat)(s:ae)(m:aj)(a b:Int)(j:Nat)(hw:m.wf)(hj:j≤m.Cells.length)
  (hX:j=m.Cells.length→ ∀v1 v2 v3 v4 v5:AV,Q (.exit 4) ((((((Q5 k s m a b j).put 63 v1).put 64 v2).put 65 v3).put 66 v4).put 67 v5))
  (hR:∀S,j<m.Cells.length→G7 a b (m.Cells.drop j)=none→S.get 2=nB false→Q .ret S)
  (hN:∀agd b' S,j<m.Cells.length→G7 a b (m.Cells.drop j)=G7 agd b' (m.Cells.drop (j+1))→S.bM [1,3,4,6,7,8] [.own 1,.own 7]=Q5 k s m agd b' (j+1)→Q .normal S):
  oK te JJ (cX Tryz.f5 [1,1,1,0,1,0,0,1,0,0,1,1,1,0,0]) (Q5 k s m a b j) Q:=by
 have fw:maxLen≤9223372036854775807:=by decide
 have dP:=hw.Cells.1;refine⟨_,al _ _,?_⟩;refine ab (fun h=>?_) (fun h=>?_)
 ·have aN:j<m.Cells.length:=by simpa using h
  have bW:=ao aI.enc m.Cells j aN;have Aq:=av aN;have hd:=nn aN;obtain⟨c,hc⟩:∃c,c=m.Cells.getD j default:=⟨_,rfl⟩
  rw[←hc]at bW Aq hd;have pI:=(hw.Cells.2 c Aq).ai.1;refine⟨_,bW,?_⟩;refine⟨_,al _ _,?_⟩;refine⟨_,fun _=>bW,?_⟩;refine⟨_,fun _=>al _ _,?_⟩;refine ab (fun h=>?_) (fun h=>?_)
  ·have h:ue c=true:=h;refine hR _ aN ?_ rfl;rw[hd];unfold G7;rw[if_pos h]
  ·have h:ue c=false:=h;have xf:G7 a b (m.Cells.drop j)=match Iy a b c.ai with | none=>none | some q=>G7 q.1 q.2 (m.Cells.drop (j+1)):=by
    rw[hd]
    conv=>lhs;unfold G7
    rw[if_neg (by rw[h];simp)];all_goals rfl
   refine⟨[1,3,4,6,7,8,9],[.own 1,.own 7],fun x S=>∃(i:Nat) (agd b':Int),i≤c.ai.length∧x=c.ai.length-i∧Iy agd b' (c.ai.drop i)=Iy a b c.ai∧S=ZG k s m agd b' j i,⟨_,0,a,b,by omega,rfl,rfl,rfl⟩,?_⟩;rintro x S ⟨i,agd,b',hi,rfl,hq,rfl⟩;refine abj k s m c agd b' j i hw aN hc hi (fun fQ v1 v2 v3 v4 v5 v6 v7 v8 v9=>?_) (fun S Sd hn hg=>?_) (fun Sd v S hv hf he hk=>?_)
   ·subst fQ;rw[List.drop_length]at hq;have hq:some (agd,b')=Iy a b c.ai:=hq;refine⟨_,wrap_i64 (by omega) (by omega),?_⟩;refine hN agd b' _ aN ?_ rfl;rw[xf,←hq]
   ·refine hR S aN ?_ hg;rw[xf,←hq,hn]
   ·refine⟨c.ai.length-(i+1),by omega,i+1,_,_,by omega,rfl,?_,hk⟩;rw[←he,hv,←nn Sd];exact hq
 ·have Kt:j=m.Cells.length:=by simp at h;omega
  exact hX Kt _ _ _ _ _
open Go.Proofs
abbrev Q6(s:ae)(a b:Int)(k:Nat):St:=
 St.mk' [(1,.ptr (.own 1) 0),(3,nI a),(4,nI b),(6,nI k)] [(.own 1,.pure 27 s.enc)]
set_option maxHeartbeats 2000000 in
theorem abl{Q:Ex→St→Prop}(s:ae)(a b:Int)(k:Nat)(hw:s.wf)(hk:k≤s.aa.length)
  (hX:k=s.aa.length→ ∀v1 v2 v3 v4 v5:AV,Q (.exit 2) ((((((Q6 s a b k).put 35 v1).put 36 v2).put 37 v3).put 38 v4).put 39 v5))
  (hR:∀S,k<s.aa.length→Kv a b (s.aa.drop k)=false→S.get 2=nB false→Q .ret S)
  (hN:∀agd b' S,k<s.aa.length→Kv a b (s.aa.drop k)=Kv agd b' (s.aa.drop (k+1))→S.bM [1,3,4,6] [.own 1]=Q6 s agd b' (k+1)→Q .normal S):
  oK te JJ (cX Tryz.f5 [1,1,1,0,1,0,0]) (Q6 s a b k) Q:=by
 have fw:maxLen≤9223372036854775807:=by decide
 have dP:=hw.aa.1;refine⟨_,al _ _,?_⟩;refine ab (fun h=>?_) (fun h=>?_)
 ·have aN:k<s.aa.length:=by simpa using h
  have bW:=ao aj.enc s.aa k aN;have Aq:=av aN;have hd:=nn aN;obtain⟨m,hm⟩:∃m,m=s.aa.getD k default:=⟨_,rfl⟩
  rw[←hm]at bW Aq hd;have sO:=hw.aa.2 m Aq;refine⟨_,bW,?_⟩;refine⟨rfl,?_⟩;refine⟨_,al _ _,?_⟩;refine⟨_,fun _=>al _ _,?_⟩;refine ab (fun h=>?_) (fun h=>?_)
  ·have h:yX m=true:=h;refine hR _ aN ?_ rfl;rw[hd];unfold Kv;rw[if_pos h]
  ·have h:yX m=false:=h;have xf:Kv a b (s.aa.drop k)=match G7 a b m.Cells with | none=>false | some q=>Kv q.1 q.2 (s.aa.drop (k+1)):=by
    rw[hd]
    conv=>lhs;unfold Kv
    rw[if_neg (by rw[h];simp)];all_goals rfl
   refine⟨[1,3,4,6,7,8],[.own 1,.own 7],fun x S=>∃(j:Nat) (agd b':Int),j≤m.Cells.length∧x=m.Cells.length-j∧G7 agd b' (m.Cells.drop j)=G7 a b m.Cells∧S=Q5 k s m agd b' j,⟨_,0,a,b,by omega,rfl,rfl,rfl⟩,?_⟩;rintro x S ⟨j,agd,b',hj,rfl,hq,rfl⟩;refine abk k s m agd b' j sO hj (fun Kt v1 v2 v3 v4 v5=>?_) (fun S sZ hn hg=>?_) (fun a2 b2 S sZ he jJ=>?_)
   ·subst Kt;rw[List.drop_length]at hq;have hq:some (agd,b')=G7 a b m.Cells:=hq;refine⟨_,wrap_i64 (by omega) (by omega),?_⟩;refine hN agd b' _ aN ?_ rfl;rw[xf,←hq]
   ·refine hR S aN ?_ hg;rw[xf,←hq,hn]
   ·refine⟨m.Cells.length-(j+1),by omega,j+1,a2,b2,by omega,rfl,?_,jJ⟩;rw[←he];exact hq
 ·have pj:k=s.aa.length:=by simp at h;omega
  exact hX pj _ _ _ _ _
set_option maxHeartbeats 2000000 in
theorem X1(s:ae)(hw:s.wf):JJ 5 [.agg s.enc] [] (nB (oj s)) []:=by
 have fw:maxLen≤9223372036854775807:=by decide
 have K5:=hw.ay.1;have SH:=hw.aa.1;obtain⟨B,hB⟩:∃B,oj s=B:=⟨_,rfl⟩
 rw[hB];unfold oj at hB;obtain⟨P,hP⟩:∃P,Us s.ay=P:=⟨_,rfl⟩
 obtain⟨M,hM⟩:∃M,Kv 0 0 s.aa=M:=⟨_,rfl⟩
 rw[hP,hM]at hB;refine JJ.intro Tryz.func5 rfl rfl rfl rfl ?_;refine⟨[1,3,4,5],[.own 1],fun x S=>∃k:Nat,x=s.ay.length-k∧k≤s.ay.length∧Us (s.ay.drop k)=P∧S=St.mk' [(1,.ptr (.own 1) 0),(3,nI 0),(4,nI 0),(5,nI k)] [(.own 1,.pure 27 s.enc)],⟨_,0,rfl,by omega,hP,rfl⟩,?_⟩;rintro x S ⟨k,rfl,hk,hq,rfl⟩;refine⟨_,al _ _,?_⟩;refine ab (fun h=>?_) (fun h=>?_)
 ·have aN:k<s.ay.length:=by simpa using h
  have bW:=ao cf.enc s.ay k aN;have hd:=nn aN;obtain⟨p,hp⟩:∃p,p=s.ay.getD k default:=⟨_,rfl⟩
  rw[←hp]at bW hd;rw[hd]at hq;unfold Us at hq;refine⟨_,bW,?_⟩;refine⟨_,al _ _,?_⟩;refine⟨_,fun _=>bW,?_⟩;refine ab (fun h=>?_) (fun h=>?_)
  ·have h:uf p=true:=h;rw[if_pos h]at hq;rw[if_pos hq.symm]at hB;subst hB;exact⟨rfl,rfl⟩
  ·have h:uf p=false:=h;rw[if_neg (by rw[h];simp)]at hq;refine⟨_,wrap_i64 (by omega) (by omega),?_⟩;exact⟨s.ay.length-(k+1),by omega,k+1,rfl,by omega,hq,rfl⟩
 ·have pj:k=s.ay.length:=by simp at h;omega
  subst pj;rw[List.drop_length]at hq;have hq:true=P:=hq;subst hq;rw[if_neg (by simp)]at hB;refine⟨[1,3,4,6],[.own 1],fun x S=>∃(k:Nat) (a b:Int),x=s.aa.length-k∧k≤s.aa.length∧Kv a b (s.aa.drop k)=M∧S=Q6 s a b k,⟨_,0,0,0,rfl,by omega,hM,rfl⟩,?_⟩;rintro x S ⟨k,a,b,rfl,hk,hq,rfl⟩;refine abl s a b k hw hk (fun pj v1 v2 v3 v4 v5=>?_) (fun S aN hn hg=>?_) (fun agd b' S aN he Er=>?_)
  ·subst pj;rw[List.drop_length]at hq;have hq:true=M:=hq;subst hq;rw[if_neg (by simp)]at hB;subst hB;refine⟨_,al _ _,?_⟩;refine⟨_,fun _=>al _ _,?_⟩;refine⟨_,fun _=>al _ _,?_⟩;refine⟨_,fun _=>al _ _,?_⟩;exact⟨rfl,rfl⟩
  ·rw[hn]at hq;rw[if_pos hq.symm]at hB;exact NB hg hB
  ·exact⟨s.aa.length-(k+1),by omega,k+1,agd,b',rfl,by omega,by rw[←he];exact hq,Er⟩
open Go.Proofs
theorem ZH(m:aj)(hw:m.wf)(hE:m.cI≠0):JJ 64 [.agg m.enc] [] (.dE [.p (.sl 5 []),nI m.cI]) []:=by
 have fw:maxLen≤9223372036854775807:=by decide
 refine JJ.intro Tryz.func64 rfl rfl rfl rfl ?_;refine⟨_,kU m hw.bC.Unit,?_⟩;refine⟨_,al _ _,?_⟩;refine⟨[1,5,6,21,22,23],[.own 1],fun x S=>∃k:Nat,x=m.Cells.length-k∧k≤m.Cells.length∧
  S=St.mk' [(1,.ptr (.own 1) 0),(5,nI m.cI),(6,.own 5 []),(21,.p (.sl 2 (m.Cells.map aI.enc))),(22,nI m.Cells.length),(23,nI k)] [(.own 1,.pure 82 m.enc)],⟨m.Cells.length,0,rfl,by omega,rfl⟩,?_⟩
 rintro x S ⟨k,rfl,hk,rfl⟩;refine ab (fun h=>?_) (fun h=>?_)
 ·have aN:k<m.Cells.length:=by simpa using h
  refine⟨_,ao _ _ _ aN,?_⟩;have Aq:=av aN;generalize m.Cells.getD k default=c at Aq;refine⟨rfl,?_⟩;refine⟨_,al _ _,?_⟩;refine⟨[1,5,6,21,22,23,29,30,31],[.own 1],fun x S=>∃j:Nat,j≤c.ai.length∧x=c.ai.length-j∧
   S=St.mk' [(1,.ptr (.own 1) 0),(5,nI m.cI),(6,.own 5 []),(21,.p (.sl 2 (m.Cells.map aI.enc))),(22,nI m.Cells.length),(23,nI k),(29,.p (.sl 2 (c.ai.map ax.enc))),(30,nI c.ai.length),(31,nI j)] [(.own 1,.pure 82 m.enc)],⟨c.ai.length,0,by omega,rfl,rfl⟩,?_⟩
  rintro x S ⟨j,hj,rfl,rfl⟩;refine ab (fun h=>?_) (fun h=>?_)
  ·have aN:j<c.ai.length:=by simpa using h
   refine⟨_,ao _ _ _ aN,?_⟩;refine⟨rfl,?_⟩;refine ab (fun h=>?_) (fun h=>?_)
   ·refine ab (fun h=>?_) (fun h=>?_)
    ·exact⟨rfl,rfl⟩
    ·exact absurd (by simpa using h) hE
   ·exact absurd (by simpa using h) hE
  ·refine⟨_,wrap_i64 (by omega) (by have:=hw.Cells.1;omega),?_⟩;exact⟨m.Cells.length-(k+1),by omega,k+1,rfl,by omega,rfl⟩
 ·refine ab (fun h=>?_) (fun h=>?_)
  ·exact⟨rfl,rfl⟩
  ·exact absurd (by simpa using h) hE
theorem St.abm{S:St}{d:Nat}{v:AV}(h1:S.get d=v)(h2:S.lock=(fun _=>false))(h3:S.aJ=false):S=⟨fun t=>bif Nat.beq d t then v else S.get t,S.bx,fun _=>false,false⟩:=by
 obtain⟨g,b,l,lb⟩:=S;simp only at h1 h2 h3;subst h2 h3;congr;funext t;cases hb:Nat.beq d t with
 | true=>rw[←beq_true.1 hb];exact h1
 | false=>rfl
abbrev Iz(k j:Nat)(len:Int)(ac:List cY)(m:aj)(c:aI):St:=
 St.mk' [(1,.ptr (.own 1) 0),(4,nI len),(5,nI 0),(6,.own 5 (ac.map cY.enc)),(7,nI k),(21,.p (.sl 2 (m.Cells.map aI.enc))),(22,nI m.Cells.length),(23,nI k),(29,.p (.sl 2 (c.ai.map ax.enc))),(30,nI c.ai.length),(31,nI j)] [(.own 1,.pure 82 m.enc)]
set_option maxHeartbeats 2000000 in
theorem X2{Q:Ex→St→Prop}(k j:Nat)(len:Int)(ac:List cY)(m:aj)(c:aI)(pk:c.wf)(pI:c.ai.length≤1000)(ZF:ac.length≤900000000)(hj:j≤c.ai.length)
  (hX:j=c.ai.length→ ∀v,Q (.exit 2) ((Iz k j len ac m c).put 32 v))
  (hE:∀e S,j<c.ai.length→e≠0→gj len k j (c.ai.drop j) ac=(ac,e)→S.get 5=nI e→S.lock=(fun _=>false)→S.aJ=false→Q (.exit 0) S)
  (hN:∀X3 S,j<c.ai.length→X3.length≤ac.length+128→gj len k j (c.ai.drop j) ac=gj len k (j+1) (c.ai.drop (j+1)) X3→S.bM [1,4,5,6,7,21,22,23,29,30,31] [.own 1]=Iz k (j+1) len X3 m c→Q .normal S):
  oK te JJ (cX Tryz.f64 [1,0,1,1,1,0,1,0,0,1,1,0,0,1,1,0,0]) (Iz k j len ac m c) Q:=by
 refine ab (fun h=>?_) (fun h=>?_)
 ·have aN:j<c.ai.length:=by simpa using h
  have bW:=ao ax.enc c.ai j aN;have X0:=av aN;have hd:=aF aN;obtain⟨v,hv⟩:∃v,v=c.ai.getD j default:=⟨_,rfl⟩
  rw[←hv]at bW X0 hd;have wV:=pk.ai.2 v X0;refine⟨_,bW,?_⟩;refine⟨rfl,?_⟩;refine ab (fun h=>by cases h) (fun _=>?_);refine⟨_,QG v,?_⟩;refine ab (fun h=>?_) (fun h=>?_)
  ·have h:v.tY=false:=by simpa using h
   refine⟨_,wrap_i64 (by omega) (by omega),?_⟩;refine hN ac _ aN (by omega) ?_ rfl;rw[hd]
   conv=>lhs;unfold gj
   rw[if_pos h]
  ·have h:v.tY=true:=by simpa using h
   have iz:=kL v len;have E2:=yT v len wV;have Pm:gj len k j (c.ai.drop j) ac=if(cm v len).2≠0 then(ac,(cm v len).2)else gj len k (j+1) (c.ai.drop (j+1)) (ac++cL len k j 0 (cm v len).1):=by
    rw[hd]
    conv=>lhs;unfold gj
    rw[if_neg (by rw[h];simp)]
   obtain⟨⟨iy,e⟩,ho⟩:∃o,cm v len=o:=⟨_,rfl⟩
   rw[ho]at iz E2 Pm;refine⟨_,E2,?_⟩;refine ab (fun h=>?_) (fun h=>?_)
   ·have h:e≠0:=by simpa using h
    rw[if_pos h]at Pm;exact hE e _ aN h Pm rfl rfl rfl
   ·have h:e=0:=by simpa using h
    subst h;rw[if_neg (by simp)]at Pm;simp only at iz Pm;refine⟨_,al _ _,?_⟩;refine⟨[1,4,5,6,7,9,11,21,22,23,29,30,31,49,50,51],[.own 1],fun x S=>∃(i:Nat) (FH:List cY),i≤iy.length∧x=iy.length-i∧FH.length=ac.length+i∧FH++cL len k j i (iy.drop i)=ac++cL len k j 0 iy∧S=Q3 iy k j len FH m c i,⟨_,0,ac,by omega,rfl,rfl,rfl,rfl⟩,?_⟩;rintro x S ⟨i,FH,hi,rfl,ha3,hg,rfl⟩;refine XZ iy k j len FH m c i iz (by omega) hi (fun fQ v=>?_) (fun s S Sd hs hk=>?_)
    ·subst fQ;rw[List.drop_length]at hg;have hg:FH++ []=ac++cL len k j 0 iy:=hg;rw[List.append_nil]at hg;refine⟨_,wrap_i64 (by omega) (by omega),?_⟩;refine hN FH _ aN (by omega) ?_ rfl;rw[Pm,hg]
    ·refine⟨iy.length-(i+1),by omega,i+1,FH++ [s],by omega,rfl,by simp;omega,?_,hk⟩;rw[←hg,hs];simp
 ·have Kt:j=c.ai.length:=by simp at h;omega
  exact hX Kt _
set_option maxHeartbeats 2000000 in
theorem E3(m:aj)(hw:m.wf)(hs:vA m)(hE:m.cI=0):JJ 64 [.agg m.enc] [] (.dE [.p (.sl 5 ((cJ m).1.map cY.enc)),nI (cJ m).2]) []:=by
 have fw:maxLen≤9223372036854775807:=by decide
 have dP:=hs.cells;obtain⟨B,hB⟩:∃B,cJ m=B:=⟨_,rfl⟩
 rw[hB];unfold cJ at hB;rw[if_neg (by rw[hE];simp)]at hB;obtain⟨R,hR⟩:∃R,mT m.len 0 m.Cells []=R:=⟨_,rfl⟩
 rw[hR]at hB;have E2:=kU m hw.bC.Unit;rw[hE]at E2;refine JJ.intro Tryz.func64 rfl rfl rfl rfl ?_;refine⟨_,E2,?_⟩;refine⟨_,al _ _,?_⟩;refine⟨[1,4,5,6,21,22,23],[.own 1],fun x S=>∃(k:Nat) (acc:List cY),x=m.Cells.length-k∧k≤m.Cells.length∧acc.length≤128000*k∧mT m.len k (m.Cells.drop k) acc=R∧
  S=St.mk' [(1,.ptr (.own 1) 0),(4,nI m.len),(5,nI 0),(6,.own 5 (acc.map cY.enc)),(21,.p (.sl 2 (m.Cells.map aI.enc))),(22,nI m.Cells.length),(23,nI k)] [(.own 1,.pure 82 m.enc)],⟨m.Cells.length,0,[],rfl,by omega,by simp,hR,rfl⟩,?_⟩
 rintro x S ⟨k,acc,rfl,hk,ZF,hr,rfl⟩;refine ab (fun h=>?_) (fun h=>?_)
 ·have aN:k<m.Cells.length:=by simpa using h
  have bW:=ao aI.enc m.Cells k aN;have Aq:=av aN;rw[aF aN]at hr;obtain⟨c,hc⟩:∃c,c=m.Cells.getD k default:=⟨_,rfl⟩
  rw[←hc]at bW Aq hr;unfold mT at hr;have pI:=hs.dI c Aq;have pk:=hw.Cells.2 c Aq;obtain⟨Q,hQ⟩:∃Q,gj m.len k 0 c.ai acc=Q:=⟨_,rfl⟩
  rw[hQ]at hr;refine⟨_,bW,?_⟩;refine⟨rfl,?_⟩;refine⟨_,al _ _,?_⟩;refine⟨[1,4,5,6,7,21,22,23,29,30,31],[.own 1],fun x S=>∃(j:Nat) (Ut:List cY),j≤c.ai.length∧x=c.ai.length-j∧Ut.length≤acc.length+128*j∧gj m.len k j (c.ai.drop j) Ut=Q∧S=Iz k j m.len Ut m c,⟨c.ai.length,0,acc,by omega,rfl,by omega,hQ,rfl⟩,?_⟩;rintro x S ⟨j,Ut,hj,rfl,Gy,hq,rfl⟩;refine X2 k j m.len Ut m c pk pI (by omega) hj (fun Kt v=>?_) (fun e S sZ he Pm hg si mj=>?_) (fun X3 S sZ hl Pm Er=>?_)
  ·subst Kt;rw[List.drop_length]at hq;have hq:(Ut,(0:Int))=Q:=hq;subst hq;rw[if_neg (by simp)]at hr;refine⟨_,wrap_i64 (by omega) (by omega),?_⟩;exact⟨m.Cells.length-(k+1),by omega,k+1,Ut,rfl,by omega,by omega,hr,rfl⟩
  ·rw[Pm]at hq;subst hq;rw[if_pos he]at hr;subst hr;rw[if_pos he]at hB;subst hB;rw[St.abm hg si mj];refine ab (fun h=>?_) (fun h=>?_)
   ·exact⟨rfl,rfl⟩
   ·exact absurd (show e=0 by simpa using(show(e !=0)=false from h)) he
  ·exact⟨c.ai.length-(j+1),by omega,j+1,X3,by omega,rfl,by omega,by rw[←Pm];exact hq,Er⟩
 ·have pj:k=m.Cells.length:=by simp at h;omega
  subst pj;rw[List.drop_length]at hr;have hr:(acc,(0:Int))=R:=hr;subst hr;rw[if_neg (by simp)]at hB;subst hB;refine ab (fun h=>by cases h) (fun _=>?_);exact⟨rfl,rfl⟩
end Go.Hm
set_option maxRecDepth 8192
namespace Go.Hm
open Go.Proofs
def aq.key(a:aq):List Int:= [a.On,a.Number,a.Part,a.bA,a.cj,a.zH,a.Event.Site,a.Event.Number,a.Head]
def pd:List Int→List Int→List Int
 | x::l,y::m=>kI x y::pd l m
 | _,_=> []
def aq.cmp(a b:aq):Int:=aW (pd a.key b.key)
set_option maxHeartbeats 2000000 in
theorem yY(a b:aq):JJ 68 [.agg a.enc,.agg b.enc] [] (nI (a.cmp b)) []:=by
 refine JJ.intro Tryz.func68 rfl rfl rfl rfl ?_;refine⟨rfl,?_⟩;refine⟨_,jT a.On b.On,?_⟩;refine⟨_,jT a.Number b.Number,?_⟩;refine⟨_,jT a.Part b.Part,?_⟩;refine⟨_,jT a.bA b.bA,?_⟩;refine⟨_,jT a.cj b.cj,?_⟩;refine⟨_,jT a.zH b.zH,?_⟩;refine⟨_,jT a.Event.Site b.Event.Site,?_⟩;refine⟨_,jT a.Event.Number b.Event.Number,?_⟩;refine⟨_,jT a.Head b.Head,?_⟩;refine⟨_,Ij [_,_,_,_,_,_,_,_,_] (by simp),?_⟩;exact⟨rfl,rfl⟩
open Go.Proofs
theorem Kw{l m:List Int}{k:Nat}(h1:k<l.length)(h2:k<m.length):pd (l.drop k) (m.drop k)=kI (l.getD k default) (m.getD k default)::pd (l.drop (k+1)) (m.drop (k+1)):=by
 rw[nn h1,nn h2];all_goals rfl
set_option maxHeartbeats 2000000 in
theorem Uu(a b:aq):JJ 74 [.agg a.enc,.agg b.enc] [] (nI (a.cmp b)) []:=by
 refine JJ.intro Tryz.func74 rfl rfl rfl rfl ?_;obtain⟨l,hl⟩:∃l,a.key=l:=⟨_,rfl⟩
 obtain⟨m,hm⟩:∃m,b.key=m:=⟨_,rfl⟩
 have ZI:l.length=9:=by rw[←hl];rfl
 have fw:m.length=9:=by rw[←hm];rfl
 unfold aq.cmp;rw[hl,hm];obtain⟨R,hR⟩:∃R,aW (pd l m)=R:=⟨_,rfl⟩
 rw[hR];refine⟨[5,6,7],[],fun x S=>∃k:Nat,x=9-k∧k≤9∧aW (pd (l.drop k) (m.drop k))=R∧S=St.mk' [(5,.own 1 (l.map cB)),(6,.own 1 (m.map cB)),(7,nI k)] [],⟨9,0,rfl,by omega,hR,?_⟩,?_⟩
 ·rw[←hl,←hm];all_goals rfl
 rintro x S ⟨k,rfl,hk,hr,rfl⟩;refine⟨_,al _ _,?_⟩;refine ab (fun h=>?_) (fun h=>?_)
 ·have aN:k<9:=by rw[ZI]at h;have:=of_decide_eq_true h;omega
  have bW:=ao cB l k (by omega);have wD:=ao cB m k (by omega);rw[Kw (by omega) (by omega)]at hr;obtain⟨x,hx⟩:∃x,x=l.getD k default:=⟨_,rfl⟩
  obtain⟨y,hy⟩:∃y,y=m.getD k default:=⟨_,rfl⟩
  rw[←hx]at bW hr;rw[←hy]at wD hr;refine⟨rfl,?_⟩;refine⟨_,bW,?_⟩;refine⟨_,wD,?_⟩;refine ab (fun h=>?_) (fun h=>?_)
  ·have h:=of_decide_eq_true h;have e:kI x y= -1:=by unfold kI;rw[if_pos h]
   rw[e]at hr;have hr:(-1:Int)=R:=hr;subst hr;exact⟨rfl,rfl⟩
  ·have h1:=of_decide_eq_false h;refine⟨rfl,?_⟩;refine⟨_,bW,?_⟩;refine⟨_,wD,?_⟩;refine ab (fun h=>?_) (fun h=>?_)
   ·have h:=of_decide_eq_true h;have e:kI x y=1:=by unfold kI;rw[if_neg h1,if_pos h]
    rw[e]at hr;have hr:(1:Int)=R:=hr;subst hr;exact⟨rfl,rfl⟩
   ·have h:=of_decide_eq_false h;have e:kI x y=0:=by unfold kI;rw[if_neg h1,if_neg h]
    rw[e]at hr;refine⟨_,wrap_i64 (by omega) (by omega),?_⟩;exact⟨9-(k+1),by omega,k+1,rfl,by omega,hr,rfl⟩
 ·have pj:k=9:=by rw[ZI]at h;have:=of_decide_eq_false h;omega
  subst pj;rw[List.drop_eq_nil_of_le (by omega)]at hr;have hr:(0:Int)=R:=hr;subst hr;exact⟨rfl,rfl⟩
open Go.Proofs
def qi(n:aq)(l:List aq):Nat→Nat
 | 0=>0
 | k+1=>if(l.getD k default).cmp n>0 then qi n l k else k+1
theorem xp(n:aq)(l:List aq):∀k,qi n l k≤k
 | 0=>Nat.le_refl _
 | k+1=>by unfold qi;split;have:=xp n l k;omega;omega
def yZ(n:aq)(l:List aq):List aq:=l.take (qi n l l.length)++ [n]++l.drop (qi n l l.length)
set_option maxHeartbeats 2000000 in
theorem NC(l:List aq)(n:aq)(hl:l.length≤1000000000):JJ 42 [.p (.sl 9 (l.map aq.enc)),.agg n.enc] [] (.own 9 ((yZ n l).map aq.enc)) []:=by
 refine JJ.intro Tryz.func42 rfl rfl rfl rfl ?_;unfold yZ;obtain⟨R,hR⟩:∃R,qi n l l.length=R:=⟨_,rfl⟩
 have hRl:=xp n l l.length;rw[hR]at hRl ⊢;refine⟨_,al _ _,?_⟩;refine⟨[0,3,5],[.own 3],fun x S=>∃k:Nat,x=k∧k≤l.length∧qi n l k=R∧S=St.mk' [(0,.p (.sl 9 (l.map aq.enc))),(3,.ptr (.own 3) 0),(5,nI k)] [(.own 3,.pure 72 n.enc)],⟨_,l.length,rfl,by omega,hR,rfl⟩,?_⟩;rintro x S ⟨k,rfl,hk,hr,rfl⟩;refine⟨rfl,?_⟩;refine⟨(x:Int)-1,fun h=>wrap_i64 (by omega) (by omega),?_⟩;refine⟨(l.getD (x-1) default).enc,fun h=>?_,?_⟩
 ·have h:decide ((x:Int)>0)=true:=h;simp at h;have e:=cZ aq.enc l ((x:Int)-1) (by omega) (by omega);rw[show((x:Int)-1).toNat=x-1 by omega]at e ⊢;exact e
 refine⟨_,fun _=>Uu _ n,?_⟩;refine ab (fun h=>?_) (fun h=>?_)
 ·have h:(bif decide ((x:Int)>0)then decide ((l.getD (x-1) default).cmp n>0)else false)=true:=h;rw[aR,Bool.and_eq_true]at h;have h1:=of_decide_eq_true h.1;obtain⟨k,rfl⟩:∃k,x=k+1:=⟨x-1,by omega⟩
  unfold qi at hr;have h2:(l.getD k default).cmp n>0:=of_decide_eq_true h.2;rw[if_pos h2]at hr;refine⟨_,wrap_i64 (by omega) (by omega),?_⟩;refine⟨k,by omega,k,rfl,by omega,hr,?_⟩;rw[show((k+1:Nat):Int)-1=k by omega];all_goals rfl
 ·have h:(bif decide ((x:Int)>0)then decide ((l.getD (x-1) default).cmp n>0)else false)=false:=h;have hxR:x=R:=by
   cases x with
   | zero=>exact hr
   | succ k=>
    unfold qi at hr;rw[aR]at h;rw[if_neg]at hr
    ·exact hr
    ·intro h2;rw[show decide (((k+1:Nat):Int)>0)=true by simp]at h;have h3:decide ((l.getD (k+1-1) default).cmp n>0)=true:=decide_eq_true h2;rw[h3]at h;cases h
  subst hxR;refine⟨[.no,.no,.no,.no,.Ln,.no,.no,.Ln,.no,.no,.no,.Ln],rfl,?_⟩;refine⟨rfl,?_⟩;refine⟨rfl,?_⟩;refine⟨rfl,?_⟩;refine⟨rfl,?_⟩;refine⟨(l.take x).map aq.enc,⟨⟨by omega,by simp;omega⟩,by rw[List.map_take];rfl⟩,?_⟩;refine⟨rfl,?_⟩;refine⟨?_,(l.take x).map aq.enc,rfl,?_⟩
  ·show(0+((l.take x).map aq.enc).length)*72≤140737488355328;simp;omega
  refine⟨rfl,?_⟩;refine⟨rfl,?_⟩;refine⟨rfl,?_⟩;refine⟨?_,(l.take x++ [n]).map aq.enc,by rw[List.map_append];rfl,?_⟩
  ·show(((l.take x).map aq.enc).length+1)*72≤140737488355328;simp;omega
  refine⟨rfl,?_⟩;refine⟨rfl,?_⟩;refine⟨rfl,?_⟩;refine⟨(l.drop x).map aq.enc,⟨⟨by omega,by simp;omega⟩,by rw[List.map_drop];rfl⟩,?_⟩;refine⟨rfl,?_⟩;refine⟨?_,(l.take x++ [n]++l.drop x).map aq.enc,by rw[List.map_append (l₁:=l.take x++ [n])],?_⟩
  ·show(((l.take x++ [n]).map aq.enc).length+((l.drop x).map aq.enc).length)*72≤140737488355328;simp;omega
  refine⟨rfl,?_⟩;exact⟨rfl,rfl⟩
end Go.Hm
set_option maxRecDepth 8000
namespace Go.Hm
open Go.Proofs
abbrev YY:YJ:=oR Tryz.prog te
theorem XX.intro{f:FuncId}{fn:Func}{c:Code}(hf:Tryz.prog.funcs[f]? =some fn)(Ep:(fn.name== "runtime.NumGoroutine")=false)(hb:fn.body=some c)(cq:eI fn.ntmps true c=true)
  {args:List AV} {ext ext':List er} {r:AV} (hle:Nat.ble args.length fn.ntmps=true) (h:nA te JJ YY c (St.enter args ext) (AX te fn.results.toList ext.length (fun agf bs=>agf=r∧bs=ext'))):JJ f args ext r ext':=
 fA.T8 H4 GC hf Ep hb cq hle h
theorem G8{α β:Type}{l:List α}{f:α→β}{b:Bool}(hb:l.map f≠ []→b=false)(ht:b=true):l= []:=by
 cases l with
 | nil=>rfl
 | cons x r=>rw[hb (by simp)]at ht;cases ht
theorem Q7(l:List aS)(h:l.length≤1000000):JJ 191 [.p (.sl 5 (l.map aS.enc))] [] (.own 5 (l.map aS.enc)) []:=by
 refine XX.intro Tryz.func191 rfl rfl rfl rfl ?_;intro b hb;refine⟨fun ht=>?_,fun hf=>?_⟩
 ·obtain rfl:=G8 hb ht;exact⟨rfl,rfl⟩
 ·refine⟨?_,_,rfl,?_⟩
  ·show(([]:List (List PV)).length+(l.map aS.enc).length)*40≤140737488355328;simp;omega
  exact⟨rfl,rfl⟩
theorem Q8(l:List bE)(h:l.length≤1000000):JJ 192 [.p (.sl 5 (l.map bE.enc))] [] (.own 5 (l.map bE.enc)) []:=by
 refine XX.intro Tryz.func192 rfl rfl rfl rfl ?_;intro b hb;refine⟨fun ht=>?_,fun hf=>?_⟩
 ·obtain rfl:=G8 hb ht;exact⟨rfl,rfl⟩
 ·refine⟨?_,_,rfl,?_⟩
  ·show(([]:List (List PV)).length+(l.map bE.enc).length)*40≤140737488355328;simp;omega
  exact⟨rfl,rfl⟩
theorem Q9(l:List aU)(h:l.length≤1000000):JJ 193 [.p (.sl 2 (l.map aU.enc))] [] (.own 2 (l.map aU.enc)) []:=by
 refine XX.intro Tryz.func193 rfl rfl rfl rfl ?_;intro b hb;refine⟨fun ht=>?_,fun hf=>?_⟩
 ·obtain rfl:=G8 hb ht;exact⟨rfl,rfl⟩
 ·refine⟨?_,_,rfl,?_⟩
  ·show(([]:List (List PV)).length+(l.map aU.enc).length)*24≤140737488355328;simp;omega
  exact⟨rfl,rfl⟩
structure ND(x:aD):Prop where
 eF:x.aE.length≤1000000
 G9:x.cQ.length≤1000000
 Ha:x.bz.length≤1000000
theorem Ra(x:aD)(h:ND x):JJ 155 [.agg x.enc] [] (.agg x.enc) []:=by
 refine JJ.intro Tryz.func155 rfl rfl rfl rfl ?_;refine⟨rfl,?_⟩;refine⟨_,Q7 x.aE h.eF,?_⟩;refine⟨_,Q8 x.cQ h.G9,?_⟩;refine⟨_,Q9 x.bz h.Ha,?_⟩;refine⟨rfl,?_⟩;exact⟨rfl,rfl⟩
def Uv(s:ae)(p:bt):aD:=(cO s p.bc p.bA p.cj).getD p.Event.toNat default
theorem E4{s:ae}{p:bt}(h:kK s p=false):0≤p.Event∧p.Event<(cO s p.bc p.bA p.cj).length:=by
 unfold kK at h;rw[aX,Bool.or_eq_false_iff]at h;have h1:=of_decide_eq_false h.1;have h2:=of_decide_eq_false h.2;omega
theorem wE{s:ae}{p:bt}(h:eK s p=0):p.Kind=4∧0≤p.Event∧p.Event<(cO s p.bc p.bA p.cj).length:=by
 unfold eK at h;split at h
 ·cases h
 ·rename_i h1;split at h
  ·cases h
  ·rename_i h2;exact⟨by simpa using h1,E4 (by simpa using h2)⟩
def NF(s:ae):Prop:=∀m c v,∀e∈cO s m c v,ND e
def gK(s:ae)(p:bt):aD×Int:=if(eK s p !=0)=true then(default,eK s p)else(Uv s p,0)
theorem Rb(s:ae)(p:bt)(hs:NF s):JJ 102 [.agg s.enc,.agg p.enc] [] (.dE [.agg (gK s p).1.enc,nI (gK s p).2]) []:=by
 refine JJ.intro Tryz.func102 rfl rfl rfl rfl ?_;unfold gK;refine⟨_,Ix s p,?_⟩;refine ab (fun h=>?_) (fun h=>?_)
 ·have h:(eK s p !=0)=true:=h;rw[if_pos h];refine⟨rfl,?_⟩;exact⟨rfl,rfl⟩
 ·have h:(eK s p !=0)=false:=h;rw[if_neg (by rw[h];simp)];obtain⟨hk,h0,h1⟩:=wE (by simpa using h);refine⟨rfl,?_⟩;refine⟨_,xo s p.bc p.bA p.cj,?_⟩;refine⟨_,cZ aD.enc _ p.Event h0 h1,?_⟩;refine⟨_,Ra _ (hs p.bc p.bA p.cj _ (by
   rw[List.getD_eq_getElem?_getD,List.getElem?_eq_getElem (by omega:p.Event.toNat<_)];exact List.getElem_mem _)),?_⟩
  refine⟨rfl,?_⟩;exact⟨rfl,rfl⟩
def mF(s:ae)(p:bt):bt×Bool:=
 if(eK s p !=0)=true then(default,false)
 else if p.Event+1<(cO s p.bc p.bA p.cj).length then(⟨4,0,p.bA,p.bc,p.cj,p.Event+1,0⟩,true)
 else if(cO s (p.bc+1) p.bA p.cj).length>0 then(⟨4,0,p.bA,p.bc+1,p.cj,0,0⟩,true)
 else(default,false)
theorem IA(s:ae)(p:bt)(hm: -1000000000000≤p.bc∧p.bc≤1000000000000)(hl:∀m c v,(cO s m c v).length≤1000000000):JJ 101 [.agg s.enc,.agg p.enc] [] (.dE [.agg (mF s p).1.enc,nB (mF s p).2]) []:=by
 refine JJ.intro Tryz.func101 rfl rfl rfl rfl ?_;unfold mF;refine⟨_,Ix s p,?_⟩;refine ab (fun h=>?_) (fun h=>?_)
 ·have h:(eK s p !=0)=true:=h;rw[if_pos h];refine⟨rfl,?_⟩;exact⟨rfl,rfl⟩
 ·have h:(eK s p !=0)=false:=h;rw[if_neg (by rw[h];simp)];obtain⟨hk,h0,h1⟩:=wE (by simpa using h);have si:=hl p.bc p.bA p.cj;refine⟨rfl,?_⟩;refine⟨_,wrap_i64 (by omega) (by omega),?_⟩;refine⟨_,xo s p.bc p.bA p.cj,?_⟩;refine⟨_,al _ _,?_⟩;refine ab (fun h=>?_) (fun h=>?_)
  ·rw[if_pos (of_decide_eq_true h)];refine⟨_,wrap_i64 (by omega) (by omega),?_⟩;refine⟨_,Iw _ _ _ _,?_⟩;refine⟨rfl,?_⟩;exact⟨rfl,rfl⟩
  ·rw[if_neg (of_decide_eq_false h)];refine⟨_,wrap_i64 (by omega) (by omega),?_⟩;refine⟨_,xo s (p.bc+1) p.bA p.cj,?_⟩;refine⟨_,al _ _,?_⟩;refine ab (fun h=>?_) (fun h=>?_)
   ·have h:=of_decide_eq_true h;rw[if_pos (by omega)];refine⟨_,wrap_i64 (by omega) (by omega),?_⟩;refine⟨_,Iw _ _ _ _,?_⟩;refine⟨rfl,?_⟩;exact⟨rfl,rfl⟩
   ·have h:=of_decide_eq_false h;rw[if_neg (by omega)];refine⟨rfl,?_⟩;exact⟨rfl,rfl⟩
open Go.Proofs
abbrev Kx(l:List aq)(k:Nat):er:= .mix 43 [.own 9 ((l.take k).map aq.enc)]
theorem Rc(l:List aq)(hl:l.length≤1000000000)(xs:List Value)(o:Obj)
  (hY:∀k,k<l.length→YY [.yl (.ext 0) [.ptr (.ext 1) 0] xs,.agg (l.getD k default).enc] [.ob o,Kx l k] (nB true) [.ob o,Kx l (k+1)]):
  JJ 121 [.yl (.ext 0) [.ptr (.ext 1) 0] xs,.ro 1 [.sl 9 (l.map aq.enc)] 0] [.ob o,Kx l 0] (.dE []) [.ob o,Kx l l.length]:=by
 refine XX.intro Tryz.func121 rfl rfl rfl rfl ?_;refine⟨_,al _ _,?_⟩;refine⟨[0,5,6,7],[.ext 0,.ext 1],fun n S=>∃k:Nat,k≤l.length∧n=l.length-k∧S=St.mk' [(0,.yl (.ext 0) [.ptr (.ext 1) 0] xs),(5,.p (.sl 9 (l.map aq.enc))),(6,nI l.length),(7,nI k)] [(.ext 0,.ob o),(.ext 1,Kx l k)],⟨_,0,by omega,rfl,rfl⟩,?_⟩;rintro n S ⟨k,hk,rfl,rfl⟩;refine ab (fun h=>?_) (fun h=>?_)
 ·have h:=of_decide_eq_true h;have b9:k<l.length:=by omega
  refine⟨_,ao _ _ _ b9,?_⟩;refine⟨rfl,?_⟩;refine⟨_,_,hY k b9,rfl,?_⟩;refine ab (fun h=>by cases h) (fun _=>?_);refine⟨_,wrap_i64 (by omega) (by omega),?_⟩;exact⟨_,by omega,k+1,by omega,rfl,rfl⟩
 ·have h:=of_decide_eq_false h;obtain rfl:k=l.length:=by omega
  exact⟨rfl,rfl⟩
theorem A4{α β:Type}[Inhabited α](f:α→β)(l:List α)(k:Nat)(h:k<l.length):(l.take k).map f++ [f (l.getD k default)]=(l.take (k+1)).map f:=by
 rw[List.take_add_one,List.getElem?_eq_getElem h,List.map_append];simp[List.getD_eq_getElem?_getD,List.getElem?_eq_getElem h]
theorem Rd(l:List aq)(hl:l.length≤1000000000):JJ 171 [.iA 9,.fn 121 [] [.ro 1 [.sl 9 (l.map aq.enc)] 0]] [] (.own 9 (l.map aq.enc)) []:=by
 refine XX.intro Tryz.func171 rfl rfl rfl rfl ?_;refine⟨100,[2],none,?_⟩;intro xs o oB oS oX;refine⟨l.length,fun k=> [.agg (l.getD k default).enc],fun k=> [Kx l k],rfl,fun _=>rfl,fun k hk=>?_,⟨_,fun hY=>⟨Rc l hl xs o hY,trivial⟩⟩,?_⟩
 ·refine⟨rfl,?_⟩;refine⟨rfl,?_⟩;refine⟨rfl,?_⟩;refine⟨?_,_,A4 aq.enc l k hk,?_⟩
  ·show(((l.take k).map aq.enc).length+1)*72≤140737488355328;simp;omega
  exact⟨rfl,rfl⟩
 ·refine Or.inr ?_;refine⟨?_,rfl⟩;rw[List.take_length]
theorem IB(l:List aq)(hl:l.length≤1000000000):JJ 119 [.fn 121 [] [.ro 1 [.sl 9 (l.map aq.enc)] 0]] [] (.own 9 (l.map aq.enc)) []:=by
 refine XX.intro Tryz.func119 rfl rfl rfl rfl ?_;refine Or.inr (Or.inr ?_);refine⟨_,Rd l hl,?_⟩;exact⟨rfl,rfl⟩
theorem Uw(l:List aq):JJ 67 [.p (.sl 9 (l.map aq.enc))] [] (.fn 121 [] [.ro 1 [.sl 9 (l.map aq.enc)] 0]) []:=by
 refine JJ.intro Tryz.func67 rfl rfl rfl rfl ?_;exact⟨rfl,rfl⟩
open Go.Proofs
def cu(N:Nat)(f:Nat→aq):List (List PV):=(List.range N).map fun i=>(f i).enc
def Ky(f:Nat→aq)(k:Nat)(x:aq):Nat→aq:=fun i=>if i=k then x else f i
theorem om(N:Nat)(f:Nat→aq):(cu N f).length=N:=by simp[cu]
theorem oo{N i:Nat}{f:Nat→aq}(h:i<N):(cu N f)[i]? =some (f i).enc:=by
 simp[cu,List.getElem?_map,List.getElem?_range h]
theorem bB{N:Nat}{f:Nat→aq}{i:Nat}{z:Int}(hz:z=i)(h:i<N):(cu N f)[z.toNat]? =some (f i).enc:=by
 subst hz;exact oo h
theorem iw{N:Nat}{f:Nat→aq}{k:Nat}{x:aq} :(cu N f).set k x.enc=cu N (Ky f k x):=by
 apply List.ext_getElem?;intro i;by_cases hi:i<N
 ·rw[oo hi,List.getElem?_set];unfold Ky;by_cases h:k=i
  ·subst h;rw[if_pos rfl,if_pos (by rw[om];exact hi),if_pos rfl]
  ·rw[if_neg h,oo hi,if_neg (fun e=>h e.symm)]
 ·rw[List.getElem?_eq_none (by rw[List.length_set,om];omega),List.getElem?_eq_none (by rw[om];omega)]
theorem Re{N:Nat}{f g:Nat→aq}(h:∀i,i<N→f i=g i):cu N f=cu N g:=by
 unfold cu;exact List.map_congr_left (fun i hi=>by rw[h i (by simpa using hi)])
def iP(f:Nat→aq)(a b n:Nat):Nat→aq:=fun k=>if a≤k∧k<a+n then f (k-a+b)else if b≤k∧k<b+n then f (k-b+a)else f k
theorem Hb(f:Nat→aq)(a b n i:Nat)(h:a+n≤b)(hi:i<n):
  Ky (Ky (iP f a b i) (a+i) (iP f a b i (b+i))) (b+i) (iP f a b i (a+i))=iP f a b (i+1):=by
 funext k;have e1:iP f a b i (b+i)=f (b+i):=by
  unfold iP;rw[if_neg (by omega),if_neg (by omega)]
 have e2:iP f a b i (a+i)=f (a+i):=by
  unfold iP;rw[if_neg (by omega),if_neg (by omega)]
 rw[e1,e2];unfold Ky iP
 repeat' split
 all_goals first
  | (exfalso;omega)
  | rfl
  | (congr 1;omega)
theorem Hc(f:Nat→aq)(a b:Nat):iP f a b 0=f:=by
 funext k;unfold iP;rw[if_neg (by omega),if_neg (by omega)]
theorem CS(N a b n:Nat)(f:Nat→aq)(ha:a+n≤b)(hb:b+n≤N)(hN:N≤1000000000):
  JJ 215 [.bs (.ext 0) 9 N,nI a,nI b,nI n,.fn 68 [] []] [.rows 9 (cu N f)] (.dE []) [.rows 9 (cu N (iP f a b n))]:=by
 refine JJ.intro Tryz.func215 rfl rfl rfl rfl ?_;refine⟨[0,1,2,3,10],[.ext 0],fun m S=>∃i:Nat,i≤n∧m=n-i∧S=St.mk' [(0,.bs (.ext 0) 9 N),(1,nI a),(2,nI b),(3,nI n),(10,nI i)] [(.ext 0,.rows 9 (cu N (iP f a b i)))],⟨_,0,by omega,rfl,by rw[Hc];rfl⟩,?_⟩;rintro m S ⟨i,hi,rfl,rfl⟩;refine ab (fun h=>?_) (fun h=>?_)
 ·have h:=of_decide_eq_true h;refine⟨rfl,?_⟩;refine⟨_,wrap_i64 (by omega) (by omega),?_⟩;refine⟨_,wrap_i64 (by omega) (by omega),?_⟩;refine⟨_,wrap_i64 (by omega) (by omega),?_⟩;refine⟨⟨by omega,by omega⟩,?_⟩;refine⟨_,bB (i:=b+i) (by omega) (by omega),?_⟩;refine⟨_,wrap_i64 (by omega) (by omega),?_⟩;refine⟨⟨by omega,by omega⟩,?_⟩;refine⟨_,bB (i:=a+i) (by omega) (by omega),?_⟩;refine⟨⟨by omega,by omega⟩,?_⟩;refine⟨_,bB (i:=a+i) (by omega) (by omega),cu N (Ky (iP f a b i) (a+i) (iP f a b i (b+i))),?_,?_⟩
  ·rw[show((a:Int)+i).toNat=a+i by omega];exact iw
  refine⟨⟨by omega,by omega⟩,?_⟩;refine⟨_,bB (i:=b+i) (by omega) (by omega),cu N (iP f a b (i+1)),?_,?_⟩
  ·rw[show((b:Int)+i).toNat=b+i by omega,←Hb f a b n i ha (by omega)];exact iw
  refine⟨_,wrap_i64 (by omega) (by omega),?_⟩;exact⟨_,by omega,i+1,by omega,rfl,rfl⟩
 ·have h:=of_decide_eq_false h;obtain rfl:i=n:=by omega
  exact⟨rfl,rfl⟩
open Go.Proofs
def bk(f:Nat→aq)(a m b:Nat):Nat→aq:=fun k=>if a≤k∧k<b then(if k<a+(b-m)then f (m+(k-a))else f (k-(b-m)))else f k
theorem NG(g:Nat→aq)(m i j:Nat)(h1:1≤j)(h2:j<i)(h3:i≤m):bk (iP g (m-i) m j) (m-(i-j)) m (m+j)=bk g (m-i) m (m+j):=by
 funext k;unfold bk iP
 repeat' split
 all_goals first
  | (exfalso;omega)
  | rfl
  | (congr 1;omega)
theorem NH(g:Nat→aq)(m i j:Nat)(h1:1≤i)(h2:i<j)(h3:i≤m):bk (iP g (m-i) (m+j-i) i) (m-i) m (m+(j-i))=bk g (m-i) m (m+j):=by
 funext k;unfold bk iP
 repeat' split
 all_goals first
  | (exfalso;omega)
  | rfl
  | (congr 1;omega)
theorem NI(g:Nat→aq)(m i:Nat)(h3:i≤m):iP g (m-i) m i=bk g (m-i) m (m+i):=by
 funext k;unfold bk iP
 repeat' split
 all_goals first
  | (exfalso;omega)
  | rfl
  | (congr 1;omega)
theorem IC(N a m b:Nat)(f:Nat→aq)(h1:a<m)(h2:m<b)(hb:b≤N)(hN:N≤1000000000):
  JJ 210 [.bs (.ext 0) 9 N,nI a,nI m,nI b,.fn 68 [] []] [.rows 9 (cu N f)] (.dE []) [.rows 9 (cu N (bk f a m b))]:=by
 refine JJ.intro Tryz.func210 rfl rfl rfl rfl ?_;refine⟨_,wrap_i64 (by omega) (by omega),?_⟩;refine⟨_,wrap_i64 (by omega) (by omega),?_⟩;refine⟨[0,2,4,10,11],[.ext 0],fun q S=>∃(i j:Nat) (g:Nat→aq),1≤i∧1≤j∧i≤m∧m+j≤N∧q=i+j∧bk g (m-i) m (m+j)=bk f a m b∧S=St.mk' [(0,.bs (.ext 0) 9 N),(2,nI m),(4,.fn 68 [] []),(10,nI i),(11,nI j)] [(.ext 0,.rows 9 (cu N g))],
  ⟨_,m-a,b-m,f,by omega,by omega,by omega,by omega,rfl,by rw[show m-(m-a)=a by omega,show m+(b-m)=b by omega],by
   rw[show((m-a:Nat):Int)=(m:Int)-a by omega,show((b-m:Nat):Int)=(b:Int)-m by omega];rfl⟩,?_⟩
 rintro q S ⟨i,j,g,hi,hj,Ux,hjN,rfl,hr,rfl⟩;refine ab (fun h=>?_) (fun h=>?_)
 ·have h:((i:Int)!=j)=true:=h;have dA:i≠j:=by
   intro e;subst e;simp at h
  refine ab (fun h=>?_) (fun h=>?_)
  ·have h:=of_decide_eq_true h;refine⟨_,wrap_i64 (by omega) (by omega),?_⟩;refine⟨_,_,(by
    have:=CS N (m-i) m j g (by omega) (by omega) hN;rw[show((m-i:Nat):Int)=(m:Int)-i by omega]at this;exact this),rfl,?_⟩
   refine⟨_,wrap_i64 (by omega) (by omega),?_⟩;refine⟨i-j+j,by omega,i-j,j,_,by omega,by omega,by omega,by omega,rfl,(NG g m i j hj (by omega) Ux).trans hr,?_⟩;rw[show((i-j:Nat):Int)=(i:Int)-j by omega];rfl
  ·have h:=of_decide_eq_false h;refine⟨_,wrap_i64 (by omega) (by omega),?_⟩;refine⟨_,wrap_i64 (by omega) (by omega),?_⟩;refine⟨_,wrap_i64 (by omega) (by omega),?_⟩;refine⟨_,_,(by
    have:=CS N (m-i) (m+j-i) i g (by omega) (by omega) hN;rw[show((m-i:Nat):Int)=(m:Int)-i by omega,show((m+j-i:Nat):Int)=(m:Int)+j-i by omega]at this;exact this),rfl,?_⟩
   refine⟨_,wrap_i64 (by omega) (by omega),?_⟩;refine⟨i+(j-i),by omega,i,j-i,_,by omega,by omega,by omega,by omega,rfl,(NH g m i j hi (by omega) Ux).trans hr,?_⟩;rw[show((j-i:Nat):Int)=(j:Int)-i by omega];rfl
 ·have h:((i:Int)!=j)=false:=h;have he:i=j:=by
   have:(i:Int)=j:=by simpa using h
   omega
  subst he;refine⟨_,wrap_i64 (by omega) (by omega),?_⟩;refine⟨_,_,(by
   have:=CS N (m-i) m i g (by omega) (by omega) hN;rw[show((m-i:Nat):Int)=(m:Int)-i by omega]at this;exact this),rfl,?_⟩
  refine⟨rfl,?_⟩;rw[NI g m i Ux,hr]
open Go.Proofs
theorem NJ(a b:Int):kI b a= -kI a b:=by unfold kI;repeat' split<;>omega
theorem Kz{a b:Int}(h:kI a b=0):a=b:=by unfold kI at h;repeat' split at h<;>omega
theorem Wo(a:Int):kI a a=0:=by unfold kI;repeat' split<;>omega
theorem IE:∀(x y:List Int),aW (pd y x)= -aW (pd x y)
 | [],[]=>rfl
 | [],_::_=>rfl
 | _::_,[]=>rfl
 | a::x,b::y=>by
  show aW (kI b a::pd y x)= -aW (kI a b::pd x y);unfold aW;rw[NJ a b];have:=IE x y
  repeat' split<;>omega
theorem E5:∀(x y:List Int),x.length=y.length→aW (pd x y)=0→x=y
 | [],[],_,_=>rfl
 | [],_::_,h,_=>by simp at h
 | _::_,[],h,_=>by simp at h
 | a::x,b::y,h,h0=>by
  have h0:aW (kI a b::pd x y)=0:=h0;unfold aW at h0;split at h0
  ·exact absurd h0 (by assumption)
  ·rename_i h1;rw[Kz (Classical.not_not.1 h1),E5 x y (by simpa using h) h0]
theorem lex_trans:∀(x y z:List Int),x.length=y.length→y.length=z.length→aW (pd x y)≤0→aW (pd y z)≤0→aW (pd x z)≤0
 | [],[],[],_,_,_,_=>by show(0:Int)≤0;omega
 | [],_::_,_,h,_,_,_=>by simp at h
 | _::_,[],_,h,_,_,_=>by simp at h
 | [],[],_::_,_,h,_,_=>by simp at h
 | _::_,_::_,[],_,h,_,_=>by simp at h
 | a::x,b::y,c::z,h1,h2,h3,h4=>by
  have h3:aW (kI a b::pd x y)≤0:=h3;have h4:aW (kI b c::pd y z)≤0:=h4;show aW (kI a c::pd x z)≤0;have ih:=lex_trans x y z (by simpa using h1) (by simpa using h2);unfold aW at h3 h4 ⊢;unfold kI at h3 h4 ⊢
  repeat' split at h3
  all_goals repeat' split at h4
  all_goals repeat' split
  all_goals first | omega | exact ih h3 h4
theorem aq.ZJ(a b:aq):a.key.length=b.key.length:=rfl
theorem aq.xq(a b:aq):b.cmp a= -a.cmp b:=IE a.key b.key
theorem aq.key_inj{a b:aq}(h:a.key=b.key):a=b:=by
 cases a with
 | mk a1 a2 a3 a4 a5 a6 a7 a8=>
  cases b with
  | mk b1 b2 b3 b4 b5 b6 b7 b8=>
   cases a7;cases b7;simp[aq.key]at h;obtain⟨e1,e2,e3,e4,e5,e6,e7,e8,e9⟩:=h;subst e1;subst e2;subst e3;subst e4;subst e5;subst e6;subst e7;subst e8;subst e9;rfl
theorem aq.NK{a b:aq}(h:a.cmp b=0):a=b:=aq.key_inj (E5 _ _ rfl h)
def aq.le(a b:aq):Prop:=a.cmp b≤0
theorem aq.le_trans{a b c:aq}(h:a.le b)(k:b.le c):a.le c:=lex_trans a.key b.key c.key rfl rfl h k
theorem aq.lI{a b:aq}(h:¬a.cmp b<0):b.le a:=by unfold aq.le;rw[aq.xq];omega
theorem aq.le_of_lt{a b:aq}(h:a.cmp b<0):a.le b:=by unfold aq.le;omega
theorem aq.le_refl(a:aq):a.le a:=by
 unfold aq.le;have:=aq.xq a a;omega
theorem aq.le_antisymm{a b:aq}(h:a.le b)(k:b.le a):a=b:=by
 refine aq.NK ?_;unfold aq.le at h k;rw[aq.xq]at k;omega
def gv(f:Nat→aq)(a b:Nat):Prop:=∀i j,a≤i→i≤j→j<b→(f i).le (f j)
def bo(f agE:Nat→aq)(a b:Nat):Prop:=∃σ ρ:Nat→Nat,(∀k,k<a∨b≤k→σ k=k)∧(∀k,a≤k→k<b→a≤σ k∧σ k<b)∧(∀k,a≤k→k<b→a≤ρ k∧ρ k<b∧σ (ρ k)=k)∧(∀k,ρ (σ k)=k)∧ ∀k,agE k=f (σ k)
theorem bo.refl(f:Nat→aq)(a b:Nat):bo f f a b:=⟨id,id,fun _ _=>rfl,fun k h1 h2=>⟨h1,h2⟩,fun k h1 h2=>⟨h1,h2,rfl⟩,fun _=>rfl,fun _=>rfl⟩
theorem bo.trans{f g h:Nat→aq}{a b:Nat}(p:bo f g a b)(q:bo g h a b):bo f h a b:=by
 obtain⟨σ,ρ,p1,p2,p3,p4,p5⟩:=p;obtain⟨τ,υ,q1,q2,q3,q4,q5⟩:=q;refine⟨fun k=>σ (τ k),fun k=>υ (ρ k),fun k hk=>by show σ (τ k)=k;rw[q1 k hk,p1 k hk],fun k h1 h2=>p2 _ (q2 k h1 h2).1 (q2 k h1 h2).2,fun k h1 h2=>?_,fun k=>by show υ (ρ (σ (τ k)))=k;rw[p4,q4],fun k=>by rw[q5,p5]⟩;obtain⟨e1,e2,e3⟩:=p3 k h1 h2;obtain⟨e4,e5,e6⟩:=q3 _ e1 e2;exact⟨e4,e5,by show σ (τ (υ (ρ k)))=k;rw[e6,e3]⟩
theorem bo.wide{f g:Nat→aq}{a b agd b':Nat}(p:bo f g a b)(h1:agd≤a)(h2:b≤b'):bo f g agd b':=by
 obtain⟨σ,ρ,p1,p2,p3,p4,p5⟩:=p;refine⟨σ,ρ,fun k hk=>p1 k (by omega),fun k k1 k2=>?_,fun k k1 k2=>?_,p4,p5⟩
 ·by_cases h:a≤k∧k<b
  ·have:=p2 k h.1 h.2;omega
  ·rw[p1 k (by omega)];exact⟨k1,k2⟩
 ·by_cases h:a≤k∧k<b
  ·have:=p3 k h.1 h.2;exact⟨by omega,by omega,this.2.2⟩
  ·have e:=p1 k (by omega);have e2:=p4 k;rw[e]at e2;rw[e2];exact⟨k1,k2,e⟩
theorem bo.Wp(f:Nat→aq){a m b:Nat}(h1:a≤m)(h2:m≤b):bo f (bk f a m b) a b:=by
 have key:∀k,(if a≤k∧k<b then(if k<m then k+(b-m)else k-(m-a))else k)=k→True:=fun _ _=>trivial
 refine⟨fun k=>if a≤k∧k<b then(if k<a+(b-m)then m+(k-a)else k-(b-m))else k,fun k=>if a≤k∧k<b then(if k<m then k+(b-m)else k-(m-a))else k,fun k hk=>?_,fun k k1 k2=>?_,fun k k1 k2=>?_,fun k=>?_,fun k=>?_⟩
 ·show(if a≤k∧k<b then _ else k)=k;rw[if_neg (by omega)]
 ·show a≤(if a≤k∧k<b then _ else k)∧(if a≤k∧k<b then _ else k)<b;rw[if_pos ⟨k1,k2⟩];split<;>omega
 ·simp only;rw[if_pos ⟨k1,k2⟩]
  repeat' split
  all_goals (refine⟨by omega,by omega,by omega⟩)
 ·simp only
  repeat' split
  all_goals omega
 ·show bk f a m b k=f (if a≤k∧k<b then(if k<a+(b-m)then m+(k-a)else k-(b-m))else k);unfold bk
  repeat' split
  all_goals rfl
theorem gv.join{f g:Nat→aq}{a mid b:Nat}(hL:∀i j,a≤i→i<mid→mid≤j→j<b→(f i).le (f j)){g1:Nat→aq}(p1:bo f g1 a mid)(s1:gv g1 a mid)(p2:bo g1 g mid b)(s2:gv g mid b)(h1:a≤mid)(h2:mid≤b):
  bo f g a b∧gv g a b:=by
 refine⟨(p1.wide (Nat.le_refl _) h2).trans (p2.wide h1 (Nat.le_refl _)),fun i j hi He hj=>?_⟩;obtain⟨σ,_,a1,a2,_,_,a4⟩:=p1;obtain⟨τ,_,b1,b2,_,_,b4⟩:=p2;by_cases hjm:j<mid
 ·rw[b4 i,b4 j,b1 i (by omega),b1 j (by omega)];exact s1 i j hi He hjm
 ·by_cases Ux:i<mid
  ·rw[b4 i,b4 j,b1 i (by omega),a4 i,a4 (τ j)];have e1:=b2 j (by omega) hj;rw[a1 (τ j) (by omega)];have e2:=a2 i hi Ux;exact hL _ _ e2.1 e2.2 e1.1 e1.2
  ·exact s2 i j (by omega) He hj
theorem A5{f:Nat→aq}{a m b st en mid:Nat}(hm:gv f a m)(hb:gv f m b)(h1:a≤st)(h2:st≤m)(h3:m≤en)(h4:en≤b)(hn:st+en=mid+m)(X4:a≤mid∧mid≤b)
  (j3:st≤mid)
  (c1:∀i j,a≤i→i<st→en≤j→j<b→(f i).le (f j)) (c2:∀i j,m≤i→i<en→st≤j→j<m→(f i).le (f j)):
  gv (bk f st m en) a st∧gv (bk f st m en) st mid∧gv (bk f st m en) mid en∧gv (bk f st m en) en b∧(∀i j,a≤i→i<mid→mid≤j→j<b→(bk f st m en i).le (bk f st m en j)):=by
 have eA:∀k,k<st→bk f st m en k=f k:=fun k hk=>by unfold bk;rw[if_neg (by omega)]
 have eB:∀k,st≤k→k<mid→bk f st m en k=f (m+(k-st)):=fun k k1 k2=>by unfold bk;rw[if_pos (by omega),if_pos (by omega)]
 have eC:∀k,mid≤k→k<en→bk f st m en k=f (k-(en-m)):=fun k k1 k2=>by unfold bk;rw[if_pos (by omega),if_neg (by omega)]
 have eD:∀k,en≤k→bk f st m en k=f k:=fun k hk=>by unfold bk;rw[if_neg (by omega)]
 refine⟨fun i j hi He hj=>?_,fun i j hi He hj=>?_,fun i j hi He hj=>?_,fun i j hi He hj=>?_,fun i j hi Ux hmj hj=>?_⟩
 ·rw[eA i (by omega),eA j hj];exact hm i j hi He (by omega)
 ·rw[eB i hi (by omega),eB j (by omega) hj];exact hb _ _ (by omega) (by omega) (by omega)
 ·rw[eC i hi (by omega),eC j (by omega) hj];exact hm _ _ (by omega) (by omega) (by omega)
 ·rw[eD i hi,eD j (by omega)];exact hb _ _ (by omega) He hj
 ·by_cases mW:i<st
  ·rw[eA i mW];by_cases DG:j<en
   ·rw[eC j hmj DG];exact hm _ _ hi (by omega) (by omega)
   ·rw[eD j (by omega)];exact c1 i j hi mW (by omega) hj
  ·rw[eB i (by omega) Ux];by_cases DG:j<en
   ·rw[eC j hmj DG];exact c2 _ _ (by omega) (by omega) (by omega) (by omega)
   ·rw[eD j (by omega)];exact hb _ _ (by omega) (by omega) hj
def oq(f:Nat→aq)(a b:Nat):List aq:=(List.range (b-a)).map fun i=>f (a+i)
theorem y0{f g:Nat→aq}{a b:Nat}(p:bo f g a b):(oq g a b).Perm (oq f a b):=by
 obtain⟨σ,ρ,p1,p2,p3,p4,p5⟩:=p;have e1:oq g a b=(((List.range (b-a)).map fun i=>a+i).map σ).map f:=by
  unfold oq;rw[List.map_map,List.map_map];exact List.map_congr_left (fun i _=>p5 (a+i))
 have e2:oq f a b=((List.range (b-a)).map fun i=>a+i).map f:=by
  unfold oq;rw[List.map_map];all_goals rfl
 rw[e1,e2];refine List.Perm.map f ?_;have hA:((List.range (b-a)).map fun i=>a+i).Nodup:=by
  unfold List.Nodup;rw[List.pairwise_map];exact List.Pairwise.imp (fun h=>by omega) (List.nodup_range (n:=b-a))
 refine(List.perm_ext_iff_of_nodup ?_ hA).2 (fun x=>?_)
 ·unfold List.Nodup;rw[List.pairwise_map];exact List.Pairwise.imp (fun {x y} h e=>h (by rw[←p4 x,e,p4 y])) hA
 ·constructor
  ·intro hx;obtain⟨y,hy,rfl⟩:=List.mem_map.1 hx;obtain⟨i,hi,rfl⟩:=List.mem_map.1 hy;have hi:i<b-a:=by simpa using hi
   have:=p2 (a+i) (by omega) (by omega);exact List.mem_map.2 ⟨σ (a+i)-a,by simp;omega,by omega⟩
  ·intro hx;obtain⟨i,hi,rfl⟩:=List.mem_map.1 hx;have hi:i<b-a:=by simpa using hi
   obtain⟨q1,q2,q3⟩:=p3 (a+i) (by omega) (by omega);exact List.mem_map.2 ⟨ρ (a+i),List.mem_map.2 ⟨ρ (a+i)-a,by simp;omega,by omega⟩,q3⟩
theorem sE{f:Nat→aq}{a b:Nat}(s:gv f a b):(oq f a b).Pairwise aq.le:=by
 unfold oq;rw[List.pairwise_map,List.pairwise_iff_getElem];intro i j hi hj He;simp at hi hj ⊢;exact s _ _ (by omega) (by omega) (by omega)
theorem E6{f g h:Nat→aq}{a b:Nat}(p:bo f g a b)(q:bo f h a b)(s:gv g a b)(t:gv h a b):g=h:=by
 have e:oq g a b=oq h a b:=List.Perm.eq_of_pairwise (fun x y _ _ h1 h2=>aq.le_antisymm h1 h2) (sE s) (sE t) ((y0 p).trans (y0 q).symm);funext k;by_cases hk:a≤k∧k<b
 ·have h1:(oq g a b)[k-a]? =(oq h a b)[k-a]? :=by rw[e]
  unfold oq at h1;rw[List.getElem?_map,List.getElem?_map,List.getElem?_range (by omega)]at h1;have h1:some (g (a+(k-a)))=some (h (a+(k-a))):=h1;rw[show a+(k-a)=k by omega]at h1;exact Option.some.inj h1
 ·obtain⟨σ,_,p1,_,_,_,p5⟩:=p;obtain⟨τ,_,q1,_,_,_,q5⟩:=q;rw[p5,q5,p1 k (by omega),q1 k (by omega)]
theorem mG(f:Nat→aq)(a:Nat):∀n,∃g,bo f g a (a+n)∧gv g a (a+n)
 | 0=>⟨f,.refl _ _ _,fun i j h1 h2 h3=>by omega⟩
 | n+1=>by
  obtain⟨g,hp,hs⟩:=mG f a n;obtain⟨p,⟨h1,h2,h3⟩,abn⟩:=least (p:=fun p=>a≤p∧p≤a+n∧ ∀k,p≤k→k<a+n→(g (a+n)).le (g k)) ⟨a+n,by omega,by omega,fun k k1 k2=>by omega⟩;have uC:∀k,a≤k→k<p→(g k).le (g (a+n)):=fun k k1 k2=>by
   by_cases hle:(g (a+n)).le (g (p-1))
   ·have:=abn (p-1) ⟨by omega,by omega,fun q q1 q2=>aq.le_trans hle (hs _ _ (by omega) (by omega) q2)⟩;omega
   ·have h4:(g (p-1)).le (g (a+n)):=by
     unfold aq.le at hle ⊢;rw[aq.xq];omega
    exact aq.le_trans (hs k (p-1) k1 (by omega) (by omega)) h4
  refine⟨bk g p (a+n) (a+n+1),(hp.wide (Nat.le_refl _) (by omega)).trans ((bo.Wp g h2 (by omega)).wide h1 (Nat.le_refl _)),fun i j hi He hj=>?_⟩;have e1:∀k,k<p→bk g p (a+n) (a+n+1) k=g k:=fun k hk=>by unfold bk;rw[if_neg (by omega)]
  have e2:bk g p (a+n) (a+n+1) p=g (a+n):=by unfold bk;rw[if_pos (by omega),if_pos (by omega)];congr 1;omega
  have e3:∀k,p<k→k<a+n+1→bk g p (a+n) (a+n+1) k=g (k-1):=fun k k1 k2=>by unfold bk;rw[if_pos (by omega),if_neg (by omega)];congr 1;omega
  rcases Nat.lt_trichotomy i p with E7 | E7 | E7
  ·rw[e1 i E7];rcases Nat.lt_trichotomy j p with z6 | z6 | z6
   ·rw[e1 j z6];exact hs i j hi He (by omega)
   ·rw[z6,e2];exact uC i hi E7
   ·rw[e3 j z6 (by omega)];exact hs i (j-1) hi (by omega) (by omega)
  ·rw[E7,e2];by_cases z6:j=p
   ·rw[z6,e2];exact aq.le_refl _
   ·rw[e3 j (by omega) (by omega)];exact h3 _ (by omega) (by omega)
  ·rw[e3 i E7 (by omega),e3 j (by omega) (by omega)];exact hs _ _ (by omega) (by omega) (by omega)
noncomputable def ed(f:Nat→aq)(a b:Nat):Nat→aq:=(mG f a (b-a)).choose
theorem dK(f:Nat→aq){a b:Nat}(h:a≤b):bo f (ed f a b) a b∧gv (ed f a b) a b:=by
 obtain⟨n,rfl⟩:∃n,b=a+n:=⟨b-a,by omega⟩
 have:=(mG f a (a+n-a)).choose_spec;have e:ed f a (a+n)=(mG f a (a+n-a)).choose:=rfl;rw[←e]at this;have e2:a+(a+n-a)=a+n:=by omega
 rw[e2]at this;exact this
theorem dL{f g:Nat→aq}{a b:Nat}(h:a≤b)(p:bo f g a b)(s:gv g a b):g=ed f a b:=
 E6 p (dK f h).1 s (dK f h).2
open Go.Proofs
theorem IF{g:Nat→aq}{a p i:Nat}(hs:gv g a i)(h1:a≤p)(h2:p≤i)(uC:∀k,a≤k→k<p→(g k).le (g i))(h3:∀k,p≤k→k<i→(g i).le (g k)):gv (bk g p i (i+1)) a (i+1):=by
 intro q j hi He hj;have e1:∀k,k<p→bk g p i (i+1) k=g k:=fun k hk=>by unfold bk;rw[if_neg (by omega)]
 have e2:bk g p i (i+1) p=g i:=by unfold bk;rw[if_pos (by omega),if_pos (by omega)];congr 1;omega
 have e3:∀k,p<k→k<i+1→bk g p i (i+1) k=g (k-1):=fun k k1 k2=>by unfold bk;rw[if_pos (by omega),if_neg (by omega)];congr 1;omega
 rcases Nat.lt_trichotomy q p with E7 | E7 | E7
 ·rw[e1 q E7];rcases Nat.lt_trichotomy j p with z6 | z6 | z6
  ·rw[e1 j z6];exact hs q j hi He (by omega)
  ·rw[z6,e2];exact uC q hi E7
  ·rw[e3 j z6 (by omega)];exact hs q (j-1) hi (by omega) (by omega)
 ·rw[E7,e2];by_cases z6:j=p
  ·rw[z6,e2];exact aq.le_refl _
  ·rw[e3 j (by omega) (by omega)];exact h3 _ (by omega) (by omega)
 ·rw[e3 q E7 (by omega),e3 j (by omega) (by omega)];exact hs _ _ (by omega) (by omega) (by omega)
theorem E8(g:Nat→aq)(i:Nat):bk g i i (i+1)=g:=by
 funext k;unfold bk
 repeat' split
 all_goals first
  | rfl
  | (congr 1;omega)
theorem E9(g:Nat→aq)(j i:Nat)(h:1≤j)(hj:j≤i):Ky (Ky (bk g j i (i+1)) j (bk g j i (i+1) (j-1))) (j-1) (bk g j i (i+1) j)=bk g (j-1) i (i+1):=by
 funext k;unfold Ky bk
 repeat' split
 all_goals first
  | (exfalso;omega)
  | rfl
  | (congr 1;omega)
theorem NL(g:Nat→aq)(j i:Nat)(hj:j≤i):bk g j i (i+1) j=g i:=by
 unfold bk;rw[if_pos (by omega),if_pos (by omega)];congr 1;omega
theorem A6(g:Nat→aq)(j i k:Nat)(hk:k<j):bk g j i (i+1) k=g k:=by
 unfold bk;rw[if_neg (by omega)]
set_option maxHeartbeats 1000000 in
theorem IG(N a b:Nat)(f:Nat→aq)(hab:a≤b)(hb:b≤N)(hN:N≤1000000000):
  JJ 202 [.bs (.ext 0) 9 N,nI a,nI b,.fn 68 [] []] [.rows 9 (cu N f)] (.dE []) [.rows 9 (cu N (ed f a b))]:=by
 refine JJ.intro Tryz.func202 rfl rfl rfl rfl ?_;refine⟨_,wrap_i64 (by omega) (by omega),?_⟩;refine⟨[0,1,2,3,8],[.ext 0],fun q S=>∃(i:Nat) (g:Nat→aq),a+1≤i∧i≤b+1∧q=b+1-i∧bo f g a (min i b)∧gv g a (min i b)∧S=St.mk' [(0,.bs (.ext 0) 9 N),(1,nI a),(2,nI b),(3,.fn 68 [] []),(8,nI i)] [(.ext 0,.rows 9 (cu N g))],
  ⟨_,a+1,f,by omega,by omega,rfl,.refl _ _ _,fun i j h1 h2 h3=>by
   have:i=j:=by omega
   rw[this];exact aq.le_refl _,rfl⟩,?_⟩
 rintro q S ⟨i,g,hi,hib,rfl,hp,hs,rfl⟩;refine ab (fun h=>?_) (fun h=>?_)
 ·have h:=of_decide_eq_true h;have aN:i<b:=by omega
  rw[show min i b=i by omega]at hp hs;refine⟨[0,1,2,3,8,9],[.ext 0],fun q S=>∃j:Nat,q=j∧a≤j∧j≤i∧(∀k,j≤k→k<i→(g i).le (g k))∧S=St.mk' [(0,.bs (.ext 0) 9 N),(1,nI a),(2,nI b),(3,.fn 68 [] []),(8,nI i),(9,nI j)] [(.ext 0,.rows 9 (cu N (bk g j i (i+1))))],
   ⟨_,i,rfl,by omega,by omega,fun k k1 k2=>by omega,by rw[E8];rfl⟩,?_⟩
  rintro q S ⟨j,rfl,haj,Gp,hle,rfl⟩;refine⟨rfl,?_⟩;refine⟨fun _=>⟨by omega,by omega⟩,?_⟩;refine⟨_,fun _=>bB (i:=q) rfl (by omega),?_⟩;refine⟨(q:Int)-1,fun h=>wrap_i64 (by omega) (by omega),?_⟩;refine⟨fun h=>?_,?_⟩
  ·have h:decide ((q:Int)>a)=true:=h;have h:=of_decide_eq_true h;exact⟨by omega,by omega⟩
  refine⟨(bk g q i (i+1) (q-1)).enc,fun h=>?_,?_⟩
  ·have h:decide ((q:Int)>a)=true:=h;have h:=of_decide_eq_true h;exact bB (i:=q-1) (by omega) (by omega)
  refine⟨_,fun _=>yY _ _,?_⟩;refine ab (fun h=>?_) (fun h=>?_)
  ·have h:(bif decide ((q:Int)>a)then decide ((bk g q i (i+1) q).cmp (bk g q i (i+1) (q-1))<0)else false)=true:=h;rw[aR,Bool.and_eq_true]at h;have h1:=of_decide_eq_true h.1;have h2:=of_decide_eq_true h.2;rw[NL g q i Gp,A6 g q i (q-1) (by omega)]at h2;refine⟨rfl,?_⟩;refine⟨_,wrap_i64 (by omega) (by omega),?_⟩;refine⟨_,wrap_i64 (by omega) (by omega),?_⟩;refine⟨⟨by omega,by omega⟩,?_⟩;refine⟨_,bB (i:=q-1) (by omega) (by omega),?_⟩;refine⟨⟨by omega,by omega⟩,?_⟩;refine⟨_,bB (i:=q) rfl (by omega),?_⟩;refine⟨⟨by omega,by omega⟩,?_⟩;refine⟨_,bB (i:=q) rfl (by omega),cu N (Ky (bk g q i (i+1)) q (bk g q i (i+1) (q-1))),iw,?_⟩;refine⟨⟨by omega,by omega⟩,?_⟩;refine⟨_,bB (i:=q-1) (by omega) (by omega),cu N (bk g (q-1) i (i+1)),?_,?_⟩
   ·rw[show((q:Int)-1).toNat=q-1 by omega,←E9 g q i (by omega) Gp];exact iw
   refine⟨_,wrap_i64 (by omega) (by omega),?_⟩;refine⟨q-1,by omega,q-1,rfl,by omega,by omega,fun k k1 k2=>?_,?_⟩
   ·by_cases hk:k=q-1
    ·subst hk;exact aq.le_of_lt h2
    ·exact hle k (by omega) k2
   ·rw[show((q-1:Nat):Int)=(q:Int)-1 by omega];rfl
  ·have h:(bif decide ((q:Int)>a)then decide ((bk g q i (i+1) q).cmp (bk g q i (i+1) (q-1))<0)else false)=false:=h;have uC:∀k,a≤k→k<q→(g k).le (g i):=fun k k1 k2=>by
    rw[aR,show decide ((q:Int)>a)=true from decide_eq_true (by omega),Bool.true_and]at h;have h:=of_decide_eq_false h;rw[NL g q i Gp,A6 g q i (q-1) (by omega)]at h;exact aq.le_trans (hs k (q-1) k1 (by omega) (by omega)) (aq.lI h)
   refine⟨_,wrap_i64 (by omega) (by omega),?_⟩;refine⟨b+1-(i+1),by omega,i+1,bk g q i (i+1),by omega,by omega,rfl,?_,?_,rfl⟩
   ·rw[show min (i+1) b=i+1 by omega];exact(hp.wide (Nat.le_refl _) (by omega)).trans ((bo.Wp g Gp (by omega)).wide haj (Nat.le_refl _))
   ·rw[show min (i+1) b=i+1 by omega];exact IF hs haj Gp uC hle
 ·have h:=of_decide_eq_false h;rw[show min i b=b by omega]at hp hs;rw[dL hab hp hs];exact⟨rfl,rfl⟩
end Go.Hm
