/- Part 5 of the proof: an abstract machine for the program, its soundness, contracts of functions, and the plain law; no conditions. -/
import Derived.Test.YtnmohbeakccnkaaGreatA4
import Derived.Laws.StructEq
import Derived.ChangeKeysEq
import Derived.Test.YtnmohbeakccnkaaGreatProg
import Derived.KernelRfl
import Derived.ProofKit
import Derived.Test.YtnmohbeakccnkaaGreatRows
import Derived.RangeFuncIn
import Derived.RangeFuncRecord
import Derived.RangeFuncSeq
import Derived.RangeFuncLeaves
import Derived.OrdersIn
import Derived.Laws.IdiomStrings
set_option linter.all false
set_option maxRecDepth 512
namespace Go.Hm
def il:List AV→List AV→Bool
 | [],[]=>true
 | .p (.int k _)::r,.p (.int agc _)::z=>decide (k=agc)&&il r z
 | .p (.bool _)::r,.p (.bool _)::z=>il r z
 | .p (.str _)::r,.p (.str _)::z=>il r z
 | _,_=>false
def TE.zero(T:TE)(t:TypeId):List AV:=match T t with | some i=>i.zero | none=> []
theorem gA:∀ {cs:List PV} {y z:List AV},eJ cs y=true→il y z=true→eJ cs z=true
 | [],[],[],_,_=>rfl
 | [],[],_::_,_,h=>by cases h
 | [],_::_,_,h,_=>by cases h
 | c::cs,[],_,h,_=>by cases c<;>cases h
 | c::cs,b::y,[],_,h=>by
  cases b with
  | p v=>cases v<;>cases h
  | _=>cases h
 | c::cs,b::y,d::z,h,k=>by
  cases b with
  | p v=>
   cases c<;>cases v<;>first | (cases h;done) | skip
   all_goals (cases d with
    | p u=>(cases u<;>first | (cases k;done) | (simp only[eJ,il,Bool.and_eq_true,decide_eq_true_eq]at h k ⊢;first | exact gA h k | exact⟨h.1.trans k.1,gA h.2 k.2⟩))
    | _=>cases k)
  | _=>cases k
theorem fP:∀ {a b:List PV} {z:List AV},eJ (a++b) z=true→eJ a (z.take a.length)=true∧eJ b (z.drop a.length)=true
 | [],b,z,h=>⟨by simp[eJ],by simpa using h⟩
 | c::a,b,[],h=>by cases c<;>cases h
 | c::a,b,d::z,h=>by
  cases d with
  | p v=>
   cases c<;>cases v<;>first | (cases h;done) | skip
   all_goals (simp only[List.cons_append,eJ,Bool.and_eq_true]at h;simp only[List.length_cons,List.take_succ_cons,List.drop_succ_cons,eJ,Bool.and_eq_true];first | exact fP h | exact⟨⟨h.1,(fP h.2).1⟩,(fP h.2).2⟩)
  | _=>cases c<;>cases h
theorem mQ:∀ {a:List PV} {z:List AV},eJ a z=true→a.length=z.length
 | [],[],_=>rfl
 | [],_::_,h=>by cases h
 | c::a,[],h=>by cases c<;>cases h
 | c::a,d::z,h=>by
  cases d with
  | p v=>
   cases c<;>cases v<;>first | (cases h;done) | skip
   all_goals (simp only[eJ,Bool.and_eq_true]at h;simp only[List.length_cons];congr 1;first | exact mQ h | exact mQ h.2)
  | _=>cases c<;>cases h
def Cm(P:Program)(T:TE):Nat→TypeId→Bool
 | 0,_=>false
 | m+1,t=>match T t with
  | some ⟨.int k,sz,_,z,_⟩=>Nat.beq sz 1&&il z [.p (.int k 0)]
  | some ⟨.bool,sz,_,z,_⟩=>Nat.beq sz 1&&il z [.p (.bool false)]
  | some ⟨.str,sz,_,z,_⟩=>Nat.beq sz 1&&il z [.p (.str [])]
  | some ⟨.struct fs,sz,_,z,_⟩=> !P.stoodInHeld t&&(match P.underlying t with | some (.struct gs)=>gs.toList.all fun f=>f.name != "_" | _=>false)&&iS T sz fs 0&&fs.all fun f=>(T f.2).isSome&&(Cm P T m f.2&&il (fe (gn z f.1) (T.size f.2)) (T.zero f.2))
  | some ⟨.arr n e,sz,_,z,_⟩=>Nat.beq (n*T.size e) sz&&((T e).isSome&&(Cm P T m e&&PW z (T.zero e) (T.size e) n))
  | _=>false
 where PW (z z0:List AV) (k:Nat):Nat→Bool
 | 0=>true
 | n+1=>il (fe (gn z (n*k)) k) z0&&PW z z0 k n
theorem nV{a b:PV}{l m:List PV} :bL (a::l) (b::m)=(match pn a b with | some x=>(match bL l m with | some y=>some (x&&y) | none=>none) | none=>none):=by
 cases l with
 | nil=>cases m with
  | nil=>simp only[bL];cases pn a b<;>simp
  | cons d m=>simp only[bL];cases pn a b<;>simp
 | cons c l=>cases m with
  | nil=>simp only[bL];cases pn a b<;>simp
  | cons d m=>
   rw[bL];cases pn a b<;>cases bL (c::l) (d::m)<;>rfl
theorem lV:∀ {a c b d:List PV} {r:Bool},a.length=c.length→bL (a++b) (c++d)=some r→ ∃r1 r2,bL a c=some r1∧bL b d=some r2∧r=(r1&&r2)
 | [],[],b,d,r,_,h=>⟨true,r,rfl,h,by simp⟩
 | [],_::_,_,_,_,h,_=>by simp at h
 | _::_,[],_,_,_,h,_=>by simp at h
 | x::a,y::c,b,d,r,hl,h=>by
  rw[List.cons_append,List.cons_append,nV]at h;split at h
  ·rename_i x1 TO;split at h
   ·rename_i y1 PI;cases h;obtain⟨r1,r2,h1,h2,rfl⟩:=lV (by simpa using hl) PI;exact⟨x1&&r1,r2,by rw[nV,TO,h1],h2,by cases x1<;>simp⟩
   ·cases h
  ·cases h
section
variable {P:Program} {T:TE} {w:World} {H:Nat→Nat}
def valOf(T:TE)(t:TypeId)(xs:List Value):Value:=bif T.isAgg t then .agg xs.toArray else xs.headD undef
theorem tN(hT:bw P T){t:TypeId}{i:TI}(hi:T t=some i){xs:Array Value}{off:Nat}(hl:off+i.size≤xs.size)(h1:T.isAgg t=false→i.size=1):
  (part t xs off).run P w= .ok (valOf T t ((xs.toList.drop off).take i.size)) w:=by
 unfold part;rw[Sem.run_bind,iC hT hi];simp only[Result.andThen_ok];unfold valOf;cases dJ:T.isAgg t with
 | true=>
  simp only[if_true,Sem.run_bind,dp hT hi,Result.andThen_ok,Sem.run_pure,cond_true];rw[←lP]
 | false=>
  have hs:=h1 dJ;have aN:off<xs.size:=by omega
  simp only[Bool.false_eq_true,if_false,cond_false];rw[Array.getElem?_eq_getElem aN,hs];simp only[Sem.run_pure];congr 1;rw[List.drop_eq_getElem_cons (by simpa using aN)];simp
theorem dg.H2{cs:List PV}{xs:List Value}(h:dg w H cs xs)(k:Nat):dg w H (cs.take k) (xs.take k):=by
 have:=h.take 0 k;rw[gf,jb]at this;simpa using this
theorem dg.H3{cs:List PV}{xs:List Value}(h:dg w H cs xs)(k:Nat):dg w H (cs.drop k) (xs.drop k):=by
 refine⟨by rw[List.length_drop,List.length_drop,h.1],fun j u x hu hx=>?_⟩;rw[List.getElem?_drop]at hu hx;exact h.2 _ u x hu hx
theorem Cn{t:TypeId}{d:Nat}{a b:PV}{x y:Value}{r:Bool}(hx:cK w H a x)(hy:cK w H b y)(h:pn a b=some r)(hu:(∃k,P.underlying t=some (.int k))∨P.underlying t=some .bool∨P.underlying t=some .string)
  (hk:∀k,P.underlying t=some (.int k)→(∃agc n,a= .int agc n)) (hb:P.underlying t=some .bool→ ∃c,a= .bool c) (hs:P.underlying t=some .string→ ∃c,a= .str c):(Op.equalIn (d+1) t x y).run P w= .ok r w:=by
 rcases hu with⟨k,hu⟩ | hu | hu
 ·obtain⟨agc,n,rfl⟩:=hk k hu;cases b<;>simp only[pn]at h<;>try cases h
  split at h
  ·rename_i e;cases h;subst e;cases hx;cases hy;exact run_equalIn_int w d t _ k _ _ hu
  ·cases h
 ·obtain⟨c,rfl⟩:=hb hu;cases b<;>simp only[pn]at h<;>cases h
  cases hx;cases hy;exact run_equalIn_bool w d t _ _ hu
 ·obtain⟨c,rfl⟩:=hs hu;cases b<;>simp only[pn]at h<;>cases h
  cases hx;cases hy;rw[run_equalIn_string w d t _ _ hu];simp[ByteArray.toList_eq]
theorem rA:∀ {a z:List AV},il a z=true→a.length=z.length
 | [],[],_=>rfl
 | [],_::_,h=>by cases h
 | c::a,[],h=>by
  cases c with
  | p v=>cases v<;>cases h
  | _=>cases h
 | c::a,d::z,h=>by
  cases c with
  | p u=>
   cases d with
   | p v=>
    cases u<;>cases v<;>first | (cases h;done) | skip
    all_goals (simp only[il,Bool.and_eq_true]at h;simp only[List.length_cons];congr 1;first | exact rA h | exact rA h.2)
   | _=>cases u<;>cases h
  | _=>cases h
theorem zX{cs:List PV}{z:List AV}{k:IntKind}(h:eJ cs z=true)(hz:il z [.p (.int k 0)]=true):∃n,cs= [.int k n]:=by
 have:=gA h hz;cases cs with
 | nil=>cases this
 | cons c r=>
  cases c<;>first | (cases this;done) | skip
  simp only[eJ,Bool.and_eq_true,decide_eq_true_eq]at this;cases r with
  | nil=>obtain⟨rfl,_⟩:=this;exact⟨_,rfl⟩
  | cons d r=>have:=this.2;cases d<;>cases this
theorem yp{cs:List PV}{z:List AV}(h:eJ cs z=true)(hz:il z [.p (.bool false)]=true):∃n,cs= [.bool n]:=by
 have:=gA h hz;cases cs with
 | nil=>cases this
 | cons c r=>
  cases c<;>first | (cases this;done) | skip
  simp only[eJ]at this;cases r with
  | nil=>exact⟨_,rfl⟩
  | cons d r=>cases d<;>cases this
theorem zY{cs:List PV}{z:List AV}(h:eJ cs z=true)(hz:il z [.p (.str [])]=true):∃n,cs= [.str n]:=by
 have:=gA h hz;cases cs with
 | nil=>cases this
 | cons c r=>
  cases c<;>first | (cases this;done) | skip
  simp only[eJ]at this;cases r with
  | nil=>exact⟨_,rfl⟩
  | cons d r=>cases d<;>cases this
theorem yq{a b:PV}{r:Bool}(h:bL [a] [b]=some r):pn a b=some r:=by simpa [bL]using h
theorem lH{c:PV}{cs:List PV}{xs:List Value}(h:dg w H (c::cs) xs):∃x ys,xs=x::ys∧cK w H c x∧dg w H cs ys:=by
 cases xs with
 | nil=>have:=h.1;simp at this
 | cons x ys=>exact⟨x,ys,rfl,h.2 0 c x rfl rfl,by have:=h.1;simpa using this,fun j u y hu hy=>h.2 (j+1) u y (by simpa using hu) (by simpa using hy)⟩
theorem jD:∀ {a b:List PV} {r:Bool},bL a b=some r→a.length=b.length
 | [],[],_,_=>rfl
 | [],_::_,_,h=>by cases h
 | x::a,[],_,h=>by cases a<;>cases h
 | x::a,y::b,r,h=>by
  rw[nV]at h;split at h
  ·split at h
   ·rename_i hy;rw[List.length_cons,List.length_cons,jD hy]
   ·cases h
  ·cases h
theorem Kb{t:TypeId}{i:TI}(h:T t=some i):T.isAgg t=(match i.td with | .struct _=>true | .arr _ _=>true | _=>false):=by
 unfold TE.isAgg;rw[h];obtain⟨td,s,b,z,c⟩:=i;cases td<;>rfl
theorem TP(hT:bw P T):∀(m:Nat) {t:TypeId} {i:TI},T t=some i→Cm P T m t=true→(T.isAgg t=false→i.size=1)∧ ∀(d:Nat) (cs ds:List PV) (xs ys:List Value) (r:Bool),eJ cs i.zero=true→cs.length=i.size→dg w H cs xs→dg w H ds ys→bL cs ds=some r→
  (Op.equalIn (d+m) t (valOf T t xs) (valOf T t ys)).run P w= .ok r w:=by
 intro m;induction m with
 | zero=>intro t i _ h;cases h
 | succ m ih=>
  intro t i hi h;have dJ:=Kb hi;unfold Cm at h;rw[hi]at h;obtain⟨td,sz,by_,z,c⟩:=i;have leaf:T.isAgg t=false→ ∀ {x y:Value},valOf T t [x]=x∧valOf T t [y]=y:=fun e x y=>by simp[valOf,e]
  cases td with
  | int k=>
   simp only[Bool.and_eq_true]at h dJ;refine⟨fun _=>beq_true.1 h.1,fun d cs ds xs ys r hk hl hx hy he=>?_⟩;obtain⟨n,rfl⟩:=zX hk h.2;have Pj:=jD he;obtain⟨x,Gh,rfl,TO,rq⟩:=lH hx;have La:Gh= []:=List.eq_nil_of_length_eq_zero rq.1.symm;subst La;cases ds with
   | nil=>simp at Pj
   | cons e ds=>
    have:ds= []:=List.eq_nil_of_length_eq_zero (by simpa using Pj.symm);subst this;obtain⟨y,Xq,rfl,PI,Ge⟩:=lH hy;have Mc:Xq= []:=List.eq_nil_of_length_eq_zero Ge.1.symm;subst Mc;rw[(leaf dJ (x:=x) (y:=x)).1,(leaf dJ (x:=y) (y:=y)).1];have hu:=qz hT hi;exact Cn (d:=d+m) TO PI (yq he) (.inl ⟨k,hu⟩) (fun _ _=>⟨k,n,rfl⟩) (fun e=>by rw[hu]at e;cases e) (fun e=>by rw[hu]at e;cases e)
  | bool=>
   simp only[Bool.and_eq_true]at h dJ;refine⟨fun _=>beq_true.1 h.1,fun d cs ds xs ys r hk hl hx hy he=>?_⟩;obtain⟨n,rfl⟩:=yp hk h.2;have Pj:=jD he;obtain⟨x,Gh,rfl,TO,rq⟩:=lH hx;have La:Gh= []:=List.eq_nil_of_length_eq_zero rq.1.symm;subst La;cases ds with
   | nil=>simp at Pj
   | cons e ds=>
    have:ds= []:=List.eq_nil_of_length_eq_zero (by simpa using Pj.symm);subst this;obtain⟨y,Xq,rfl,PI,Ge⟩:=lH hy;have Mc:Xq= []:=List.eq_nil_of_length_eq_zero Ge.1.symm;subst Mc;rw[(leaf dJ (x:=x) (y:=x)).1,(leaf dJ (x:=y) (y:=y)).1];have hu:=Eu hT hi;exact Cn (d:=d+m) TO PI (yq he) (.inr (.inl hu)) (fun k e=>by rw[hu]at e;cases e) (fun _=>⟨n,rfl⟩) (fun e=>by rw[hu]at e;cases e)
  | str=>
   simp only[Bool.and_eq_true]at h dJ;refine⟨fun _=>beq_true.1 h.1,fun d cs ds xs ys r hk hl hx hy he=>?_⟩;obtain⟨n,rfl⟩:=zY hk h.2;have Pj:=jD he;obtain⟨x,Gh,rfl,TO,rq⟩:=lH hx;have La:Gh= []:=List.eq_nil_of_length_eq_zero rq.1.symm;subst La;cases ds with
   | nil=>simp at Pj
   | cons e ds=>
    have:ds= []:=List.eq_nil_of_length_eq_zero (by simpa using Pj.symm);subst this;obtain⟨y,Xq,rfl,PI,Ge⟩:=lH hy;have Mc:Xq= []:=List.eq_nil_of_length_eq_zero Ge.1.symm;subst Mc;rw[(leaf dJ (x:=x) (y:=x)).1,(leaf dJ (x:=y) (y:=y)).1];have hu:=yn hT hi;exact Cn (d:=d+m) TO PI (yq he) (.inr (.inr hu)) (fun k e=>by rw[hu]at e;cases e) (fun e=>by rw[hu]at e;cases e) (fun _=>⟨n,rfl⟩)
  | struct fs=>
   simp only[Bool.and_eq_true]at h dJ;obtain⟨⟨⟨h1,h2⟩,h3⟩,h4⟩:=h;refine⟨fun e=>(by rw[dJ]at e;cases e),fun d cs ds xs ys r hk hl hx hy he=>?_⟩;have hl:cs.length=sz:=hl;have hk:eJ cs z=true:=hk;obtain⟨gs,hu,FF⟩:=kd hT hi;rw[hu]at h2;simp only at h2;have hv:∀l,valOf T t l= .agg l.toArray:=fun l=>by simp[valOf,dJ]
   rw[hv,hv];have Pk:P.fieldsOf t=gs:=by simp[Program.fieldsOf,hu]
   rw[show d+(m+1)=(d+m)+1 from rfl,run_equalIn_struct w (d+m) t _ _ (by rw[Pk];exact hu) (by simpa using h1),Pk];have Pj:=jD he;have go:∀(gl:List Field) (k:Nat) (r:Bool),iS T sz (gl.map fun f=>(f.offset,f.type)) k=true→(∀f∈gl,f.name≠ "_")→(∀f∈gl.map (fun f=>(f.offset,f.type)),((T f.2).isSome&&(Cm P T m f.2&&il (fe (gn z f.1) (T.size f.2)) (T.zero f.2)))=true)→k≤sz→bL (cs.drop k) (ds.drop k)=some r→
     (Op.eqFields (d+m) xs.toArray ys.toArray gl).run P w= .ok r w:=by
    intro gl;induction gl with
    | nil=>
     intro k r hc _ _ _ he;have:k=sz:=beq_true.1 hc;have e1:cs.drop k= []:=List.drop_of_length_le (by omega);have e2:ds.drop k= []:=List.drop_of_length_le (by omega);rw[e1,e2]at he;cases he;simp[Op.eqFields]
    | cons f gl ihl=>
     intro k r hc hn hf jJ he;simp only[List.map_cons,iS,ku.iS,Bool.and_eq_true]at hc;have eo:=beq_true.1 hc.1;obtain⟨c1,_⟩:=ym (T:=T) (sz:=sz) hc.2;have hff:=hf (f.offset,f.type) (by simp);simp only[Bool.and_eq_true]at hff;obtain⟨q1,q2,q3⟩:=hff;obtain⟨fi,Xr⟩:=Option.isSome_iff_exists.1 q1;have dZ:T.size f.type=fi.size:=by simp[TE.size,Xr]
     have hz0:T.zero f.type=fi.zero:=by simp[TE.zero,Xr]
     obtain⟨i1,i2⟩:=ih Xr q2;rw[dZ]at c1 q3;have hxl:=hx.1;have Zq:=hy.1;have e1:cs.drop k=(cs.drop k).take fi.size++cs.drop (k+fi.size):=by rw[←List.drop_drop,List.take_append_drop]
     have e2:ds.drop k=(ds.drop k).take fi.size++ds.drop (k+fi.size):=by rw[←List.drop_drop,List.take_append_drop]
     rw[e1,e2]at he;obtain⟨r1,r2,k1,k2,rfl⟩:=lV (by rw[List.length_take,List.length_take,List.length_drop,List.length_drop];omega) he;have Er:eJ ((cs.drop k).take fi.size) fi.zero=true:=by
      have Kc:=hk;have ec:cs=cs.take k++((cs.drop k).take fi.size++cs.drop (k+fi.size)):=by rw[←e1,List.take_append_drop]
      rw[ec]at Kc;have ph:=(fP Kc).2;have jJ:=(fP ph).1;rw[List.length_take,List.length_take,List.length_drop,Nat.min_eq_left (by omega),Nat.min_eq_left (by omega)]at jJ;refine gA jJ ?_;rw[gf,jb,eo,hz0]at q3;exact q3
     have TQ:=i2 d ((cs.drop k).take fi.size) ((ds.drop k).take fi.size) ((xs.drop k).take fi.size) ((ys.drop k).take fi.size) r1 Er (by rw[List.length_take,List.length_drop];omega) ((hx.H3 k).H2 _) ((hy.H3 k).H2 _) k1;have p1:=tN (P:=P) (w:=w) hT Xr (xs:=xs.toArray) (off:=k) (by simp;omega) i1;have p2:=tN (P:=P) (w:=w) hT Xr (xs:=ys.toArray) (off:=k) (by simp;omega) i1;unfold Op.eqFields;rw[if_pos (hn f List.mem_cons_self),Sem.run_bind,eo,p1,Result.andThen_ok,Sem.run_bind,p2,Result.andThen_ok,Sem.run_bind,TQ,Result.andThen_ok];cases r1 with
     | false=>simp
     | true=>
      simp only[Bool.not_true,Bool.false_eq_true,if_false,Bool.true_and];exact ihl (k+fi.size) r2 (by rw[←dZ];exact hc.2) (fun f hf=>hn f (List.mem_cons_of_mem _ hf)) (fun f aaN=>hf f (List.mem_cons_of_mem _ aaN)) c1 k2
   refine go gs.toList 0 r (by rw[←FF];exact h3) (fun f hf=>by simpa using List.all_eq_true.1 h2 f hf) (fun f hf=>by have:=List.all_eq_true.1 h4 f (by rw[FF];exact hf);simpa using this) (Nat.zero_le _) (by simpa using he)
  | arr n e=>
   simp only[Bool.and_eq_true]at h dJ;obtain⟨h1,h2,h3,h4⟩:=h;refine⟨fun e=>(by rw[dJ]at e;cases e),fun d cs ds xs ys r hk hl hx hy he=>?_⟩;have hl:cs.length=sz:=hl;have hk:eJ cs z=true:=hk;have h1:=beq_true.1 h1;obtain⟨ei,TR⟩:=Option.isSome_iff_exists.1 h2;have dZ:T.size e=ei.size:=by simp[TE.size,TR]
   have hz0:T.zero e=ei.zero:=by simp[TE.zero,TR]
   have hu:=nG hT hi;obtain⟨ti,_,k1,_⟩:=hT.info e ei TR;have hv:∀l,valOf T t l= .agg l.toArray:=fun l=>by simp[valOf,dJ]
   rw[hv,hv,show d+(m+1)=(d+m)+1 from rfl,run_equalIn_array w (d+m) _ _ hu k1,kj hT TR,dZ];obtain⟨i1,i2⟩:=ih TR h3;have Pj:=jD he;have hxl:=hx.1;have Zq:=hy.1;rw[dZ]at h1 h4;have az:∀agn,Cm.PW z (T.zero e) ei.size agn=true→ ∀j,j<agn→il ((z.drop (j*ei.size)).take ei.size) ei.zero=true:=by
    intro agn;induction agn with
    | zero=>intro _ j hj;omega
    | succ agn ihn=>
     intro ha j hj;simp only[Cm.PW,Bool.and_eq_true]at ha;by_cases e:j=agn
     ·subst e;have:=ha.1;rw[gf,jb,hz0]at this;exact this
     ·exact ihn ha.2 j (by omega)
   have go:∀(c k:Nat) (r:Bool),k+c=n→bL (cs.drop (k*ei.size)) (ds.drop (k*ei.size))=some r→(Op.eqItems (d+m) e ei.size xs.toArray ys.toArray (List.range' k c)).run P w= .ok r w:=by
    intro c;induction c with
    | zero=>
     intro k r hkc he;have:k=n:=by omega
     subst this;have e1:cs.drop (k*ei.size)= []:=List.drop_of_length_le (by omega);have e2:ds.drop (k*ei.size)= []:=List.drop_of_length_le (by omega);rw[e1,e2]at he;cases he;simp[Op.eqItems]
    | succ c ihc=>
     intro k r hkc he;have hle:(k+1)*ei.size≤n*ei.size:=Nat.mul_le_mul_right _ (by omega);rw[Nat.succ_mul]at hle;have e1:cs.drop (k*ei.size)=(cs.drop (k*ei.size)).take ei.size++cs.drop ((k+1)*ei.size):=by rw[Nat.succ_mul,←List.drop_drop,List.take_append_drop]
     have e2:ds.drop (k*ei.size)=(ds.drop (k*ei.size)).take ei.size++ds.drop ((k+1)*ei.size):=by rw[Nat.succ_mul,←List.drop_drop,List.take_append_drop]
     rw[e1,e2]at he;obtain⟨r1,r2,q1,q2,rfl⟩:=lV (by rw[List.length_take,List.length_take,List.length_drop,List.length_drop];omega) he;have Er:eJ ((cs.drop (k*ei.size)).take ei.size) ei.zero=true:=by
      have Kc:=hk;have ec:cs=cs.take (k*ei.size)++((cs.drop (k*ei.size)).take ei.size++cs.drop ((k+1)*ei.size)):=by rw[←e1,List.take_append_drop]
      rw[ec]at Kc;have ph:=(fP Kc).2;have jJ:=(fP ph).1;rw[List.length_take,List.length_take,List.length_drop,Nat.min_eq_left (by omega),Nat.min_eq_left (by omega)]at jJ;exact gA jJ (az n h4 k (by omega))
     have TQ:=i2 d _ _ ((xs.drop (k*ei.size)).take ei.size) ((ys.drop (k*ei.size)).take ei.size) r1 Er (by rw[List.length_take,List.length_drop];omega) ((hx.H3 _).H2 _) ((hy.H3 _).H2 _) q1;have p1:=tN (P:=P) (w:=w) hT TR (xs:=xs.toArray) (off:=k*ei.size) (by simp;omega) i1;have p2:=tN (P:=P) (w:=w) hT TR (xs:=ys.toArray) (off:=k*ei.size) (by simp;omega) i1;rw[List.range'_succ];unfold Op.eqItems;rw[Sem.run_bind,p1,Result.andThen_ok,Sem.run_bind,p2,Result.andThen_ok,Sem.run_bind,TQ,Result.andThen_ok];cases r1 with
     | false=>simp
     | true=>
      simp only[Bool.not_true,Bool.false_eq_true,if_false,Bool.true_and];exact ihc (k+1) r2 (by omega) q2
   rw[List.range_eq_range'];exact go n 0 r (by omega) (by simpa using he)
  | _=>cases h
end
def TE.un(T:TE):TE:=fun t=>match T t with | some ⟨td,s,b,z,_⟩=>some ⟨td,s,b,z,false⟩ | none=>none
theorem TS{T:TE}{t:TypeId}{cs:List PV} :T.un.cmp t cs=false:=by
 unfold TE.cmp TE.un;cases T t with
 | none=>rfl
 | some i=>rfl
theorem TT{T:TE}{t:TypeId}{i:TI}(h:T t=some i):T.un t=some ⟨i.td,i.size,i.bytes,i.zero,false⟩:=by
 unfold TE.un;rw[h]
def Ey(P:Program)(T U:TE):Nat→Bool
 | 0=>true
 | n+1=>(match T n with | some i=> !i.cmp||(U.isAgg n&&(Cm P U 12 n&& !P.eqGuardType P.depth n)) | none=>true)&&Ey P T U n
theorem Kd{P:Program}{T U:TE}{N t:Nat}{i:TI}(h:Ey P T U N=true)(ht:t<N)(hi:T t=some i)(hc:i.cmp=true):U.isAgg t=true∧Cm P U 12 t=true∧P.eqGuardType P.depth t=false:=by
 induction N with
 | zero=>omega
 | succ n ih=>
  simp only[Ey,Bool.and_eq_true]at h;by_cases e:t=n
  ·subst e;have:=h.1;rw[hi]at this;simpa [hc]using this
  ·exact ih h.2 (by omega)
theorem tO:∀(a:List AV) (l:List Value),rp a l=true→a.length=l.length
 | [],[],_=>rfl
 | [],_::_,h=>by cases h
 | x::a,[],h=>by cases x<;>cases h
 | x::a,y::l,h=>by
  simp only[rp,Bool.and_eq_true]at h;rw[List.length_cons,List.length_cons,tO a l h.2]
theorem bw.mk'{P:Program}{T:TE}{N:Nat}(hN:∀t i,T t=some i→t<N)(h1:wy P T N=true)(h2:wy P T.un N=true)(h3:Ey P T T.un N=true):bw P T:=by
 have hU:bw P T.un:=bw.of (N:=N) (fun t i h=>by
  unfold TE.un at h;split at h
  ·rename_i hi;exact hN t _ hi
  ·cases h) h2 (fun t cs hc=>by rw[TS]at hc;cases hc)
 refine bw.of hN h1 ?_;intro t cs hc w H ds xs ys b hx hy he;unfold TE.cmp at hc;split at hc
 ·rename_i i hi;rw[Bool.and_eq_true]at hc;obtain⟨e1,e2,e3⟩:=Kd h3 (hN t i hi) hi hc.1;have hui:=TT hi;obtain⟨ti,z,k1,k2,k3,k4,k5,k6,k7⟩:=hU.info t _ hui;refine⟨fun op x y=>run_eqGuard_agg w op t x y xs ys e3,?_⟩;have hl:cs.length=i.size:=by
   rw[mQ hc.2,tO _ _ k7];simpa using k6
  have:=(TP (w:=w) (H:=H) hU 12 hui e2).2 9988 cs ds xs.toList ys.toList b hc.2 hl hx hy he;have e:∀(l:Array Value),valOf T.un t l.toList= .agg l:=fun l=>by simp[valOf,e1]
  rw[e,e]at this;exact this
 ·cases hc
def t1:TI:=⟨.fn,1,8,[.aP],false⟩
def t3:TI:=⟨.int .i64,1,8,[.p (.int .i64 0)],false⟩
def t4:TI:=⟨.bool,1,1,[.p (.bool false)],false⟩
def t5:TI:=⟨.int .u8,1,1,[.p (.int .u8 0)],false⟩
def t9:TI:=⟨.str,1,16,[.p (.str [])],false⟩
def t21:TI:=⟨.int .i32,1,4,[.p (.int .i32 0)],false⟩
def t22:TI:=⟨.slice 78,1,24,[.own 6 []],false⟩
def t23:TI:=⟨.slice 82,1,24,[.own 22 []],false⟩
def t24:TI:=⟨.slice 117,1,24,[.own 7 []],false⟩
def t25:TI:=⟨.slice 70,1,24,[.own 2 []],false⟩
def t26:TI:=⟨.struct [(0,9),(1,4),(2,22),(3,23),(4,24),(5,25)],6,120,[.p (.str []),.p (.bool false),.own 6 [],.own 22 [],.own 7 [],.own 2 []],false⟩
def t27:TI:=⟨.struct [(0,9),(1,4),(2,22),(3,23),(4,24),(5,25)],6,120,[.p (.str []),.p (.bool false),.own 6 [],.own 22 [],.own 7 [],.own 2 []],false⟩
def t28:TI:=⟨.fn,1,8,[.aP],false⟩
def t29:TI:=⟨.fn,1,8,[.aP],false⟩
def t30:TI:=⟨.slice 3,1,24,[.own 1 []],false⟩
def t31:TI:=⟨.int .i64,1,8,[.p (.int .i64 0)],false⟩
def t33:TI:=⟨.fn,1,8,[.aP],false⟩
def t34:TI:=⟨.slice 53,1,24,[.own 10 []],false⟩
def t36:TI:=⟨.fn,1,8,[.aP],false⟩
def t37:TI:=⟨.slice 58,1,24,[.own 4 []],false⟩
def t39:TI:=⟨.fn,1,8,[.aP],false⟩
def t40:TI:=⟨.slice 63,1,24,[.own 9 []],false⟩
def t42:TI:=⟨.fn,1,8,[.aP],false⟩
def t43:TI:=⟨.slice 72,1,24,[.mo 9 []],false⟩
def t45:TI:=⟨.fn,1,8,[.aP],false⟩
def t46:TI:=⟨.fn,1,8,[.aP],false⟩
def t47:TI:=⟨.fn,1,8,[.aP],false⟩
def t48:TI:=⟨.fn,1,8,[.aP],false⟩
def t49:TI:=⟨.arr 6 3,6,48,[.p (.int .i64 0),.p (.int .i64 0),.p (.int .i64 0),.p (.int .i64 0),.p (.int .i64 0),.p (.int .i64 0)],true⟩
def t50:TI:=⟨.struct [(0,3),(1,3),(2,49)],8,64,[.p (.int .i64 0),.p (.int .i64 0),.p (.int .i64 0),.p (.int .i64 0),.p (.int .i64 0),.p (.int .i64 0),.p (.int .i64 0),.p (.int .i64 0)],true⟩
def t51:TI:=⟨.struct [(0,3),(1,3),(2,49)],8,64,[.p (.int .i64 0),.p (.int .i64 0),.p (.int .i64 0),.p (.int .i64 0),.p (.int .i64 0),.p (.int .i64 0),.p (.int .i64 0),.p (.int .i64 0)],true⟩
def t52:TI:=⟨.struct [(0,3),(1,3),(2,51)],10,80,[.p (.int .i64 0),.p (.int .i64 0),.p (.int .i64 0),.p (.int .i64 0),.p (.int .i64 0),.p (.int .i64 0),.p (.int .i64 0),.p (.int .i64 0),.p (.int .i64 0),.p (.int .i64 0)],true⟩
def t53:TI:=⟨.struct [(0,3),(1,3),(2,51)],10,80,[.p (.int .i64 0),.p (.int .i64 0),.p (.int .i64 0),.p (.int .i64 0),.p (.int .i64 0),.p (.int .i64 0),.p (.int .i64 0),.p (.int .i64 0),.p (.int .i64 0),.p (.int .i64 0)],true⟩
def t54:TI:=⟨.fn,1,8,[.aP],false⟩
def t55:TI:=⟨.struct [(0,3),(1,3),(2,3)],3,24,[.p (.int .i64 0),.p (.int .i64 0),.p (.int .i64 0)],true⟩
def t56:TI:=⟨.struct [(0,3),(1,3),(2,3)],3,24,[.p (.int .i64 0),.p (.int .i64 0),.p (.int .i64 0)],true⟩
def t57:TI:=⟨.struct [(0,3),(1,56)],4,32,[.p (.int .i64 0),.p (.int .i64 0),.p (.int .i64 0),.p (.int .i64 0)],true⟩
def t58:TI:=⟨.struct [(0,3),(1,56)],4,32,[.p (.int .i64 0),.p (.int .i64 0),.p (.int .i64 0),.p (.int .i64 0)],true⟩
def t59:TI:=⟨.fn,1,8,[.aP],false⟩
def t60:TI:=⟨.struct [(0,3),(1,3),(2,3),(3,3)],4,32,[.p (.int .i64 0),.p (.int .i64 0),.p (.int .i64 0),.p (.int .i64 0)],true⟩
def t61:TI:=⟨.struct [(0,3),(1,3),(2,3),(3,3)],4,32,[.p (.int .i64 0),.p (.int .i64 0),.p (.int .i64 0),.p (.int .i64 0)],true⟩
def t62:TI:=⟨.struct [(0,3),(1,61),(5,61)],9,72,[.p (.int .i64 0),.p (.int .i64 0),.p (.int .i64 0),.p (.int .i64 0),.p (.int .i64 0),.p (.int .i64 0),.p (.int .i64 0),.p (.int .i64 0),.p (.int .i64 0)],true⟩
def t63:TI:=⟨.struct [(0,3),(1,61),(5,61)],9,72,[.p (.int .i64 0),.p (.int .i64 0),.p (.int .i64 0),.p (.int .i64 0),.p (.int .i64 0),.p (.int .i64 0),.p (.int .i64 0),.p (.int .i64 0),.p (.int .i64 0)],true⟩
def t64:TI:=⟨.fn,1,8,[.aP],false⟩
def t65:TI:=⟨.fn,1,8,[.aP],false⟩
def t66:TI:=⟨.fn,1,8,[.aP],false⟩
def t67:TI:=⟨.fn,1,8,[.aP],false⟩
def t68:TI:=⟨.fn,1,8,[.aP],false⟩
def t69:TI:=⟨.struct [(0,3),(1,3)],2,16,[.p (.int .i64 0),.p (.int .i64 0)],true⟩
def t70:TI:=⟨.struct [(0,3),(1,3)],2,16,[.p (.int .i64 0),.p (.int .i64 0)],true⟩
def t71:TI:=⟨.struct [(0,3),(1,3),(2,3),(3,3),(4,3),(5,3),(6,70),(8,3)],9,72,[.p (.int .i64 0),.p (.int .i64 0),.p (.int .i64 0),.p (.int .i64 0),.p (.int .i64 0),.p (.int .i64 0),.p (.int .i64 0),.p (.int .i64 0),.p (.int .i64 0)],true⟩
def t72:TI:=⟨.struct [(0,3),(1,3),(2,3),(3,3),(4,3),(5,3),(6,70),(8,3)],9,72,[.p (.int .i64 0),.p (.int .i64 0),.p (.int .i64 0),.p (.int .i64 0),.p (.int .i64 0),.p (.int .i64 0),.p (.int .i64 0),.p (.int .i64 0),.p (.int .i64 0)],true⟩
def t73:TI:=⟨.fn,1,8,[.aP],false⟩
def t74:TI:=⟨.struct [(0,3),(1,3)],2,16,[.p (.int .i64 0),.p (.int .i64 0)],true⟩
def t75:TI:=⟨.struct [(0,3),(1,3)],2,16,[.p (.int .i64 0),.p (.int .i64 0)],true⟩
def t76:TI:=⟨.slice 98,1,24,[.own 3 []],false⟩
def t77:TI:=⟨.struct [(0,70),(2,9),(3,75),(5,76)],6,72,[.p (.int .i64 0),.p (.int .i64 0),.p (.str []),.p (.int .i64 0),.p (.int .i64 0),.own 3 []],false⟩
def t78:TI:=⟨.struct [(0,70),(2,9),(3,75),(5,76)],6,72,[.p (.int .i64 0),.p (.int .i64 0),.p (.str []),.p (.int .i64 0),.p (.int .i64 0),.own 3 []],false⟩
def t79:TI:=⟨.slice 204,1,24,[.own 3 []],false⟩
def t80:TI:=⟨.slice 86,1,24,[.own 2 []],false⟩
def t81:TI:=⟨.struct [(0,70),(2,51),(10,3),(11,3),(12,4),(13,3),(14,3),(15,3),(16,3),(17,3),(18,3),(19,9),(20,79),(21,80)],22,216,[.p (.int .i64 0),.p (.int .i64 0),.p (.int .i64 0),.p (.int .i64 0),.p (.int .i64 0),.p (.int .i64 0),.p (.int .i64 0),.p (.int .i64 0),.p (.int .i64 0),.p (.int .i64 0),.p (.int .i64 0),.p (.int .i64 0),.p (.bool false),.p (.int .i64 0),.p (.int .i64 0),.p (.int .i64 0),.p (.int .i64 0),.p (.int .i64 0),.p (.int .i64 0),.p (.str []),.own 3 [],.own 2 []],false⟩
def t82:TI:=⟨.struct [(0,70),(2,51),(10,3),(11,3),(12,4),(13,3),(14,3),(15,3),(16,3),(17,3),(18,3),(19,9),(20,79),(21,80)],22,216,[.p (.int .i64 0),.p (.int .i64 0),.p (.int .i64 0),.p (.int .i64 0),.p (.int .i64 0),.p (.int .i64 0),.p (.int .i64 0),.p (.int .i64 0),.p (.int .i64 0),.p (.int .i64 0),.p (.int .i64 0),.p (.int .i64 0),.p (.bool false),.p (.int .i64 0),.p (.int .i64 0),.p (.int .i64 0),.p (.int .i64 0),.p (.int .i64 0),.p (.int .i64 0),.p (.str []),.own 3 [],.own 2 []],false⟩
def t83:TI:=⟨.slice 103,1,24,[.own 2 []],false⟩
def t84:TI:=⟨.slice 91,1,24,[.own 2 []],false⟩
def t85:TI:=⟨.struct [(0,83),(1,84)],2,48,[.own 2 [],.own 2 []],false⟩
def t86:TI:=⟨.struct [(0,83),(1,84)],2,48,[.own 2 [],.own 2 []],false⟩
def t87:TI:=⟨.fn,1,8,[.aP],false⟩
def t88:TI:=⟨.slice 111,1,24,[.own 13 []],false⟩
def t89:TI:=⟨.slice 292,1,24,[.mo 4 []],false⟩
def t90:TI:=⟨.struct [(0,88),(1,89)],2,48,[.own 13 [],.own 4 []],false⟩
def t91:TI:=⟨.struct [(0,88),(1,89)],2,48,[.own 13 [],.own 4 []],false⟩
def t92:TI:=⟨.fn,1,8,[.aP],false⟩
def t93:TI:=⟨.slice 143,1,24,[.own 3 []],false⟩
def t94:TI:=⟨.fn,1,8,[.aP],false⟩
def t96:TI:=⟨.fn,1,8,[.aP],false⟩
def t97:TI:=⟨.struct [(0,70),(2,3)],3,24,[.p (.int .i64 0),.p (.int .i64 0),.p (.int .i64 0)],true⟩
def t98:TI:=⟨.struct [(0,70),(2,3)],3,24,[.p (.int .i64 0),.p (.int .i64 0),.p (.int .i64 0)],true⟩
def t100:TI:=⟨.fn,1,8,[.aP],false⟩
def t101:TI:=⟨.fn,1,8,[.aP],false⟩
def t102:TI:=⟨.struct [(0,3),(1,3)],2,16,[.p (.int .i64 0),.p (.int .i64 0)],true⟩
def t103:TI:=⟨.struct [(0,3),(1,3)],2,16,[.p (.int .i64 0),.p (.int .i64 0)],true⟩
def t104:TI:=⟨.fn,1,8,[.aP],false⟩
def t105:TI:=⟨.struct [(0,3),(1,3)],2,16,[.p (.int .i64 0),.p (.int .i64 0)],true⟩
def t106:TI:=⟨.struct [(0,3),(1,3)],2,16,[.p (.int .i64 0),.p (.int .i64 0)],true⟩
def t107:TI:=⟨.slice 113,1,24,[.own 5 []],false⟩
def t108:TI:=⟨.slice 182,1,24,[.own 5 []],false⟩
def t109:TI:=⟨.slice 137,1,24,[.own 2 []],false⟩
def t110:TI:=⟨.struct [(0,70),(2,3),(3,106),(5,107),(6,108),(7,3),(8,3),(9,3),(10,109),(11,3),(12,3)],13,152,[.p (.int .i64 0),.p (.int .i64 0),.p (.int .i64 0),.p (.int .i64 0),.p (.int .i64 0),.own 5 [],.own 5 [],.p (.int .i64 0),.p (.int .i64 0),.p (.int .i64 0),.own 2 [],.p (.int .i64 0),.p (.int .i64 0)],false⟩
def t111:TI:=⟨.struct [(0,70),(2,3),(3,106),(5,107),(6,108),(7,3),(8,3),(9,3),(10,109),(11,3),(12,3)],13,152,[.p (.int .i64 0),.p (.int .i64 0),.p (.int .i64 0),.p (.int .i64 0),.p (.int .i64 0),.own 5 [],.own 5 [],.p (.int .i64 0),.p (.int .i64 0),.p (.int .i64 0),.own 2 [],.p (.int .i64 0),.p (.int .i64 0)],false⟩
def t112:TI:=⟨.struct [(0,56),(3,4),(4,3)],5,40,[.p (.int .i64 0),.p (.int .i64 0),.p (.int .i64 0),.p (.bool false),.p (.int .i64 0)],true⟩
def t113:TI:=⟨.struct [(0,56),(3,4),(4,3)],5,40,[.p (.int .i64 0),.p (.int .i64 0),.p (.int .i64 0),.p (.bool false),.p (.int .i64 0)],true⟩
def t114:TI:=⟨.map 70 61,1,8,[.fD],false⟩
def t115:TI:=⟨.fn,1,8,[.aP],false⟩
def t116:TI:=⟨.struct [(0,70),(2,3),(3,70),(5,70)],7,56,[.p (.int .i64 0),.p (.int .i64 0),.p (.int .i64 0),.p (.int .i64 0),.p (.int .i64 0),.p (.int .i64 0),.p (.int .i64 0)],true⟩
def t117:TI:=⟨.struct [(0,70),(2,3),(3,70),(5,70)],7,56,[.p (.int .i64 0),.p (.int .i64 0),.p (.int .i64 0),.p (.int .i64 0),.p (.int .i64 0),.p (.int .i64 0),.p (.int .i64 0)],true⟩
def t118:TI:=⟨.ptr,1,8,[.gm],false⟩
def t119:TI:=⟨.ptr,1,8,[.gm],false⟩
def t120:TI:=⟨.map 56 3,1,8,[.fD],false⟩
def t121:TI:=⟨.struct [(0,119),(1,120),(2,72),(11,3)],12,96,[.gm,.fD,.p (.int .i64 0),.p (.int .i64 0),.p (.int .i64 0),.p (.int .i64 0),.p (.int .i64 0),.p (.int .i64 0),.p (.int .i64 0),.p (.int .i64 0),.p (.int .i64 0),.p (.int .i64 0)],false⟩
def t122:TI:=⟨.struct [(0,119),(1,120),(2,72),(11,3)],12,96,[.gm,.fD,.p (.int .i64 0),.p (.int .i64 0),.p (.int .i64 0),.p (.int .i64 0),.p (.int .i64 0),.p (.int .i64 0),.p (.int .i64 0),.p (.int .i64 0),.p (.int .i64 0),.p (.int .i64 0)],false⟩
def t123:TI:=⟨.fn,1,8,[.aP],false⟩
def t124:TI:=⟨.fn,1,8,[.aP],false⟩
def t126:TI:=⟨.fn,1,8,[.aP],false⟩
def t127:TI:=⟨.fn,1,8,[.aP],false⟩
def t129:TI:=⟨.fn,1,8,[.aP],false⟩
def t130:TI:=⟨.fn,1,8,[.aP],false⟩
def t131:TI:=⟨.fn,1,8,[.aP],false⟩
def t132:TI:=⟨.fn,1,8,[.aP],false⟩
def t133:TI:=⟨.fn,1,8,[.aP],false⟩
def t134:TI:=⟨.fn,1,8,[.aP],false⟩
def t135:TI:=⟨.fn,1,8,[.aP],false⟩
def t136:TI:=⟨.struct [(0,9),(1,3)],2,24,[.p (.str []),.p (.int .i64 0)],true⟩
def t137:TI:=⟨.struct [(0,9),(1,3)],2,24,[.p (.str []),.p (.int .i64 0)],true⟩
def t138:TI:=⟨.ptr,1,8,[.gm],false⟩
def t139:TI:=⟨.struct [(0,27),(6,3),(7,93)],8,152,[.p (.str []),.p (.bool false),.own 6 [],.own 22 [],.own 7 [],.own 2 [],.p (.int .i64 0),.own 3 []],false⟩
def t140:TI:=⟨.struct [(0,27),(6,3),(7,93)],8,152,[.p (.str []),.p (.bool false),.own 6 [],.own 22 [],.own 7 [],.own 2 [],.p (.int .i64 0),.own 3 []],false⟩
def t141:TI:=⟨.slice 1,1,24,[.own 1 []],false⟩
def t142:TI:=⟨.struct [(0,3),(1,70)],3,24,[.p (.int .i64 0),.p (.int .i64 0),.p (.int .i64 0)],true⟩
def t143:TI:=⟨.struct [(0,3),(1,70)],3,24,[.p (.int .i64 0),.p (.int .i64 0),.p (.int .i64 0)],true⟩
def t144:TI:=⟨.fn,1,8,[.aP],false⟩
def t145:TI:=⟨.slice 149,1,24,[.own 5 []],false⟩
def t147:TI:=⟨.fn,1,8,[.aP],false⟩
def t148:TI:=⟨.struct [(0,3),(1,3),(2,3),(3,3),(4,3)],5,40,[.p (.int .i64 0),.p (.int .i64 0),.p (.int .i64 0),.p (.int .i64 0),.p (.int .i64 0)],true⟩
def t149:TI:=⟨.struct [(0,3),(1,3),(2,3),(3,3),(4,3)],5,40,[.p (.int .i64 0),.p (.int .i64 0),.p (.int .i64 0),.p (.int .i64 0),.p (.int .i64 0)],true⟩
def t150:TI:=⟨.fn,1,8,[.aP],false⟩
def t151:TI:=⟨.fn,1,8,[.aP],false⟩
def t152:TI:=⟨.fn,1,8,[.aP],false⟩
def t153:TI:=⟨.fn,1,8,[.aP],false⟩
def t154:TI:=⟨.fn,1,8,[.aP],false⟩
def t155:TI:=⟨.fn,1,8,[.aP],false⟩
def t156:TI:=⟨.fn,1,8,[.aP],false⟩
def t157:TI:=⟨.fn,1,8,[.aP],false⟩
def t158:TI:=⟨.fn,1,8,[.aP],false⟩
def t159:TI:=⟨.fn,1,8,[.aP],false⟩
def t160:TI:=⟨.fn,1,8,[.aP],false⟩
def t161:TI:=⟨.fn,1,8,[.aP],false⟩
def t162:TI:=⟨.fn,1,8,[.aP],false⟩
def t163:TI:=⟨.fn,1,8,[.aP],false⟩
def t164:TI:=⟨.map 70 4,1,8,[.fD],false⟩
def t165:TI:=⟨.fn,1,8,[.aP],false⟩
def t166:TI:=⟨.fn,1,8,[.aP],false⟩
def t167:TI:=⟨.fn,1,8,[.aP],false⟩
def t168:TI:=⟨.fn,1,8,[.aP],false⟩
def t169:TI:=⟨.fn,1,8,[.aP],false⟩
def t170:TI:=⟨.fn,1,8,[.aP],false⟩
def t171:TI:=⟨.fn,1,8,[.aP],false⟩
def t172:TI:=⟨.fn,1,8,[.aP],false⟩
def t173:TI:=⟨.struct [(0,3),(1,3),(2,3),(3,3),(4,3),(5,3),(6,3)],7,56,[.p (.int .i64 0),.p (.int .i64 0),.p (.int .i64 0),.p (.int .i64 0),.p (.int .i64 0),.p (.int .i64 0),.p (.int .i64 0)],true⟩
def t174:TI:=⟨.struct [(0,3),(1,3),(2,3),(3,3),(4,3),(5,3),(6,3)],7,56,[.p (.int .i64 0),.p (.int .i64 0),.p (.int .i64 0),.p (.int .i64 0),.p (.int .i64 0),.p (.int .i64 0),.p (.int .i64 0)],true⟩
def t175:TI:=⟨.fn,1,8,[.aP],false⟩
def t176:TI:=⟨.fn,1,8,[.aP],false⟩
def t177:TI:=⟨.fn,1,8,[.aP],false⟩
def t178:TI:=⟨.fn,1,8,[.aP],false⟩
def t179:TI:=⟨.fn,1,8,[.aP],false⟩
def t180:TI:=⟨.fn,1,8,[.aP],false⟩
def t181:TI:=⟨.struct [(0,56),(3,3),(4,4)],5,40,[.p (.int .i64 0),.p (.int .i64 0),.p (.int .i64 0),.p (.int .i64 0),.p (.bool false)],true⟩
def t182:TI:=⟨.struct [(0,56),(3,3),(4,4)],5,40,[.p (.int .i64 0),.p (.int .i64 0),.p (.int .i64 0),.p (.int .i64 0),.p (.bool false)],true⟩
def t183:TI:=⟨.fn,1,8,[.aP],false⟩
def t184:TI:=⟨.fn,1,8,[.aP],false⟩
def t186:TI:=⟨.fn,1,8,[.aP],false⟩
def t188:TI:=⟨.fn,1,8,[.aP],false⟩
def t189:TI:=⟨.fn,1,8,[.aP],false⟩
def t190:TI:=⟨.map 174 4,1,8,[.fD],false⟩
def t191:TI:=⟨.fn,1,8,[.aP],false⟩
def t192:TI:=⟨.slice 4,1,24,[.own 1 []],false⟩
def t194:TI:=⟨.fn,1,8,[.aP],false⟩
def t195:TI:=⟨.fn,1,8,[.aP],false⟩
def t196:TI:=⟨.struct [(0,4),(1,3),(2,3),(3,3),(4,4),(5,3)],6,48,[.p (.bool false),.p (.int .i64 0),.p (.int .i64 0),.p (.int .i64 0),.p (.bool false),.p (.int .i64 0)],true⟩
def t197:TI:=⟨.struct [(0,4),(1,3),(2,3),(3,3),(4,4),(5,3)],6,48,[.p (.bool false),.p (.int .i64 0),.p (.int .i64 0),.p (.int .i64 0),.p (.bool false),.p (.int .i64 0)],true⟩
def t199:TI:=⟨.fn,1,8,[.aP],false⟩
def t200:TI:=⟨.fn,1,8,[.aP],false⟩
def t201:TI:=⟨.fn,1,8,[.aP],false⟩
def t202:TI:=⟨.fn,1,8,[.aP],false⟩
def t203:TI:=⟨.struct [(0,3),(1,3),(2,4)],3,24,[.p (.int .i64 0),.p (.int .i64 0),.p (.bool false)],true⟩
def t204:TI:=⟨.struct [(0,3),(1,3),(2,4)],3,24,[.p (.int .i64 0),.p (.int .i64 0),.p (.bool false)],true⟩
def t205:TI:=⟨.struct [(0,9),(1,5),(2,3),(3,3),(4,3),(5,3),(6,3)],7,64,[.p (.str []),.p (.int .u8 0),.p (.int .i64 0),.p (.int .i64 0),.p (.int .i64 0),.p (.int .i64 0),.p (.int .i64 0)],true⟩
def t206:TI:=⟨.struct [(0,9),(1,5),(2,3),(3,3),(4,3),(5,3),(6,3)],7,64,[.p (.str []),.p (.int .u8 0),.p (.int .i64 0),.p (.int .i64 0),.p (.int .i64 0),.p (.int .i64 0),.p (.int .i64 0)],true⟩
def t208:TI:=⟨.fn,1,8,[.aP],false⟩
def t210:TI:=⟨.fn,1,8,[.aP],false⟩
def t211:TI:=⟨.fn,1,8,[.aP],false⟩
def t212:TI:=⟨.fn,1,8,[.aP],false⟩
def t213:TI:=⟨.fn,1,8,[.aP],false⟩
def t214:TI:=⟨.fn,1,8,[.aP],false⟩
def t215:TI:=⟨.fn,1,8,[.aP],false⟩
def t216:TI:=⟨.fn,1,8,[.aP],false⟩
def t217:TI:=⟨.fn,1,8,[.aP],false⟩
def t218:TI:=⟨.arr 7 3,7,56,[.p (.int .i64 0),.p (.int .i64 0),.p (.int .i64 0),.p (.int .i64 0),.p (.int .i64 0),.p (.int .i64 0),.p (.int .i64 0)],true⟩
def t219:TI:=⟨.fn,1,8,[.aP],false⟩
def t220:TI:=⟨.fn,1,8,[.aP],false⟩
def t221:TI:=⟨.fn,1,8,[.aP],false⟩
def t222:TI:=⟨.slice 5,1,24,[.own 1 []],false⟩
def t223:TI:=⟨.fn,1,8,[.aP],false⟩
def t224:TI:=⟨.fn,1,8,[.aP],false⟩
def t225:TI:=⟨.fn,1,8,[.aP],false⟩
def t226:TI:=⟨.ptr,1,8,[.gm],false⟩
def t227:TI:=⟨.ptr,1,8,[.gm],false⟩
def t228:TI:=⟨.fn,1,8,[.aP],false⟩
def t229:TI:=⟨.fn,1,8,[.aP],false⟩
def t230:TI:=⟨.fn,1,8,[.aP],false⟩
def t231:TI:=⟨.fn,1,8,[.aP],false⟩
def t232:TI:=⟨.fn,1,8,[.aP],false⟩
def t233:TI:=⟨.fn,1,8,[.aP],false⟩
def t234:TI:=⟨.fn,1,8,[.aP],false⟩
def t235:TI:=⟨.fn,1,8,[.aP],false⟩
def t236:TI:=⟨.fn,1,8,[.aP],false⟩
def t237:TI:=⟨.fn,1,8,[.aP],false⟩
def t238:TI:=⟨.fn,1,8,[.aP],false⟩
def t239:TI:=⟨.fn,1,8,[.aP],false⟩
def t240:TI:=⟨.fn,1,8,[.aP],false⟩
def t241:TI:=⟨.fn,1,8,[.aP],false⟩
def t242:TI:=⟨.fn,1,8,[.aP],false⟩
def t243:TI:=⟨.fn,1,8,[.aP],false⟩
def t244:TI:=⟨.fn,1,8,[.aP],false⟩
def t245:TI:=⟨.fn,1,8,[.aP],false⟩
def t246:TI:=⟨.fn,1,8,[.aP],false⟩
def t247:TI:=⟨.fn,1,8,[.aP],false⟩
def t248:TI:=⟨.fn,1,8,[.aP],false⟩
def t249:TI:=⟨.arr 7 195,7,56,[.aP,.aP,.aP,.aP,.aP,.aP,.aP],false⟩
def t250:TI:=⟨.fn,1,8,[.aP],false⟩
def t251:TI:=⟨.fn,1,8,[.aP],false⟩
def t252:TI:=⟨.arr 9 206,63,576,[.p (.str []),.p (.int .u8 0),.p (.int .i64 0),.p (.int .i64 0),.p (.int .i64 0),.p (.int .i64 0),.p (.int .i64 0),.p (.str []),.p (.int .u8 0),.p (.int .i64 0),.p (.int .i64 0),.p (.int .i64 0),.p (.int .i64 0),.p (.int .i64 0),.p (.str []),.p (.int .u8 0),.p (.int .i64 0),.p (.int .i64 0),.p (.int .i64 0),.p (.int .i64 0),.p (.int .i64 0),.p (.str []),.p (.int .u8 0),.p (.int .i64 0),.p (.int .i64 0),.p (.int .i64 0),.p (.int .i64 0),.p (.int .i64 0),.p (.str []),.p (.int .u8 0),.p (.int .i64 0),.p (.int .i64 0),.p (.int .i64 0),.p (.int .i64 0),.p (.int .i64 0),.p (.str []),.p (.int .u8 0),.p (.int .i64 0),.p (.int .i64 0),.p (.int .i64 0),.p (.int .i64 0),.p (.int .i64 0),.p (.str []),.p (.int .u8 0),.p (.int .i64 0),.p (.int .i64 0),.p (.int .i64 0),.p (.int .i64 0),.p (.int .i64 0),.p (.str []),.p (.int .u8 0),.p (.int .i64 0),.p (.int .i64 0),.p (.int .i64 0),.p (.int .i64 0),.p (.int .i64 0),.p (.str []),.p (.int .u8 0),.p (.int .i64 0),.p (.int .i64 0),.p (.int .i64 0),.p (.int .i64 0),.p (.int .i64 0)],true⟩
def t253:TI:=⟨.fn,1,8,[.aP],false⟩
def t254:TI:=⟨.fn,1,8,[.aP],false⟩
def t255:TI:=⟨.fn,1,8,[.aP],false⟩
def t256:TI:=⟨.fn,1,8,[.aP],false⟩
def t257:TI:=⟨.fn,1,8,[.aP],false⟩
def t258:TI:=⟨.fn,1,8,[.aP],false⟩
def t259:TI:=⟨.fn,1,8,[.aP],false⟩
def t260:TI:=⟨.fn,1,8,[.aP],false⟩
def t261:TI:=⟨.fn,1,8,[.aP],false⟩
def t262:TI:=⟨.fn,1,8,[.aP],false⟩
def t263:TI:=⟨.slice 31,1,24,[.own 1 []],false⟩
def t264:TI:=⟨.fn,1,8,[.aP],false⟩
def t265:TI:=⟨.fn,1,8,[.aP],false⟩
def t266:TI:=⟨.fn,1,8,[.aP],false⟩
def t267:TI:=⟨.fn,1,8,[.aP],false⟩
def t268:TI:=⟨.fn,1,8,[.aP],false⟩
def t269:TI:=⟨.fn,1,8,[.aP],false⟩
def t270:TI:=⟨.fn,1,8,[.aP],false⟩
def t271:TI:=⟨.fn,1,8,[.aP],false⟩
def t272:TI:=⟨.fn,1,8,[.aP],false⟩
def t273:TI:=⟨.fn,1,8,[.aP],false⟩
def t274:TI:=⟨.fn,1,8,[.aP],false⟩
def t275:TI:=⟨.fn,1,8,[.aP],false⟩
def t276:TI:=⟨.fn,1,8,[.aP],false⟩
def t277:TI:=⟨.int .u64,1,8,[.p (.int .u64 0)],false⟩
def t278:TI:=⟨.fn,1,8,[.aP],false⟩
def t279:TI:=⟨.fn,1,8,[.aP],false⟩
def t280:TI:=⟨.fn,1,8,[.aP],false⟩
def t281:TI:=⟨.fn,1,8,[.aP],false⟩
def t282:TI:=⟨.fn,1,8,[.aP],false⟩
def t283:TI:=⟨.int .u32,1,4,[.p (.int .u32 0)],false⟩
def t284:TI:=⟨.fn,1,8,[.aP],false⟩
def t285:TI:=⟨.int .u64,1,8,[.p (.int .u64 0)],false⟩
def t286:TI:=⟨.fn,1,8,[.aP],false⟩
def t287:TI:=⟨.fn,1,8,[.aP],false⟩
def t288:TI:=⟨.fn,1,8,[.aP],false⟩
def t289:TI:=⟨.fn,1,8,[.aP],false⟩
def t290:TI:=⟨.fn,1,8,[.aP],false⟩
def t291:TI:=⟨.struct [(0,3),(1,3),(2,3),(3,3)],4,32,[.p (.int .i64 0),.p (.int .i64 0),.p (.int .i64 0),.p (.int .i64 0)],true⟩
def t292:TI:=⟨.struct [(0,3),(1,3),(2,3),(3,3)],4,32,[.p (.int .i64 0),.p (.int .i64 0),.p (.int .i64 0),.p (.int .i64 0)],true⟩
def t293:TI:=⟨.fn,1,8,[.aP],false⟩
def t294:TI:=⟨.fn,1,8,[.aP],false⟩
def t295:TI:=⟨.fn,1,8,[.aP],false⟩
def t296:TI:=⟨.fn,1,8,[.aP],false⟩
def t297:TI:=⟨.fn,1,8,[.aP],false⟩
def t298:TI:=⟨.fn,1,8,[.aP],false⟩
def t299:TI:=⟨.fn,1,8,[.aP],false⟩
def t305:TI:=⟨.fn,1,8,[.aP],false⟩
def t308:TI:=⟨.fn,1,8,[.aP],false⟩
def t309:TI:=⟨.ptr,1,8,[.gm],false⟩
def te(t:TypeId):Option TI:=bif Nat.blt t 310 then(bif Nat.blt t 162 then(bif Nat.blt t 89 then(bif Nat.blt t 55 then(bif Nat.blt t 34 then(bif Nat.blt t 25 then(bif Nat.blt t 21 then(bif Nat.blt t 5 then(bif Nat.blt t 4 then(bif Nat.beq t 3 then some t3 else(bif Nat.beq t 1 then some t1 else none))else(bif Nat.beq t 4 then some t4 else none))else(bif Nat.blt t 9 then(bif Nat.beq t 5 then some t5 else none)else(bif Nat.beq t 9 then some t9 else none)))else(bif Nat.blt t 23 then(bif Nat.blt t 22 then(bif Nat.beq t 21 then some t21 else none)else(bif Nat.beq t 22 then some t22 else none))else(bif Nat.blt t 24 then(bif Nat.beq t 23 then some t23 else none)else(bif Nat.beq t 24 then some t24 else none))))else(bif Nat.blt t 29 then(bif Nat.blt t 27 then(bif Nat.blt t 26 then(bif Nat.beq t 25 then some t25 else none)else(bif Nat.beq t 26 then some t26 else none))else(bif Nat.blt t 28 then(bif Nat.beq t 27 then some t27 else none)else(bif Nat.beq t 28 then some t28 else none)))else(bif Nat.blt t 31 then(bif Nat.blt t 30 then(bif Nat.beq t 29 then some t29 else none)else(bif Nat.beq t 30 then some t30 else none))else(bif Nat.blt t 33 then(bif Nat.beq t 31 then some t31 else none)else(bif Nat.beq t 33 then some t33 else none)))))else(bif Nat.blt t 46 then(bif Nat.blt t 40 then(bif Nat.blt t 37 then(bif Nat.blt t 36 then(bif Nat.beq t 34 then some t34 else none)else(bif Nat.beq t 36 then some t36 else none))else(bif Nat.blt t 39 then(bif Nat.beq t 37 then some t37 else none)else(bif Nat.beq t 39 then some t39 else none)))else(bif Nat.blt t 43 then(bif Nat.blt t 42 then(bif Nat.beq t 40 then some t40 else none)else(bif Nat.beq t 42 then some t42 else none))else(bif Nat.blt t 45 then(bif Nat.beq t 43 then some t43 else none)else(bif Nat.beq t 45 then some t45 else none))))else(bif Nat.blt t 50 then(bif Nat.blt t 48 then(bif Nat.blt t 47 then(bif Nat.beq t 46 then some t46 else none)else(bif Nat.beq t 47 then some t47 else none))else(bif Nat.blt t 49 then(bif Nat.beq t 48 then some t48 else none)else(bif Nat.beq t 49 then some t49 else none)))else(bif Nat.blt t 52 then(bif Nat.blt t 51 then(bif Nat.beq t 50 then some t50 else none)else(bif Nat.beq t 51 then some t51 else none))else(bif Nat.blt t 53 then(bif Nat.beq t 52 then some t52 else none)else(bif Nat.blt t 54 then(bif Nat.beq t 53 then some t53 else none)else(bif Nat.beq t 54 then some t54 else none)))))))else(bif Nat.blt t 72 then(bif Nat.blt t 63 then(bif Nat.blt t 59 then(bif Nat.blt t 57 then(bif Nat.blt t 56 then(bif Nat.beq t 55 then some t55 else none)else(bif Nat.beq t 56 then some t56 else none))else(bif Nat.blt t 58 then(bif Nat.beq t 57 then some t57 else none)else(bif Nat.beq t 58 then some t58 else none)))else(bif Nat.blt t 61 then(bif Nat.blt t 60 then(bif Nat.beq t 59 then some t59 else none)else(bif Nat.beq t 60 then some t60 else none))else(bif Nat.blt t 62 then(bif Nat.beq t 61 then some t61 else none)else(bif Nat.beq t 62 then some t62 else none))))else(bif Nat.blt t 67 then(bif Nat.blt t 65 then(bif Nat.blt t 64 then(bif Nat.beq t 63 then some t63 else none)else(bif Nat.beq t 64 then some t64 else none))else(bif Nat.blt t 66 then(bif Nat.beq t 65 then some t65 else none)else(bif Nat.beq t 66 then some t66 else none)))else(bif Nat.blt t 69 then(bif Nat.blt t 68 then(bif Nat.beq t 67 then some t67 else none)else(bif Nat.beq t 68 then some t68 else none))else(bif Nat.blt t 70 then(bif Nat.beq t 69 then some t69 else none)else(bif Nat.blt t 71 then(bif Nat.beq t 70 then some t70 else none)else(bif Nat.beq t 71 then some t71 else none))))))else(bif Nat.blt t 80 then(bif Nat.blt t 76 then(bif Nat.blt t 74 then(bif Nat.blt t 73 then(bif Nat.beq t 72 then some t72 else none)else(bif Nat.beq t 73 then some t73 else none))else(bif Nat.blt t 75 then(bif Nat.beq t 74 then some t74 else none)else(bif Nat.beq t 75 then some t75 else none)))else(bif Nat.blt t 78 then(bif Nat.blt t 77 then(bif Nat.beq t 76 then some t76 else none)else(bif Nat.beq t 77 then some t77 else none))else(bif Nat.blt t 79 then(bif Nat.beq t 78 then some t78 else none)else(bif Nat.beq t 79 then some t79 else none))))else(bif Nat.blt t 84 then(bif Nat.blt t 82 then(bif Nat.blt t 81 then(bif Nat.beq t 80 then some t80 else none)else(bif Nat.beq t 81 then some t81 else none))else(bif Nat.blt t 83 then(bif Nat.beq t 82 then some t82 else none)else(bif Nat.beq t 83 then some t83 else none)))else(bif Nat.blt t 86 then(bif Nat.blt t 85 then(bif Nat.beq t 84 then some t84 else none)else(bif Nat.beq t 85 then some t85 else none))else(bif Nat.blt t 87 then(bif Nat.beq t 86 then some t86 else none)else(bif Nat.blt t 88 then(bif Nat.beq t 87 then some t87 else none)else(bif Nat.beq t 88 then some t88 else none))))))))else(bif Nat.blt t 126 then(bif Nat.blt t 108 then(bif Nat.blt t 98 then(bif Nat.blt t 93 then(bif Nat.blt t 91 then(bif Nat.blt t 90 then(bif Nat.beq t 89 then some t89 else none)else(bif Nat.beq t 90 then some t90 else none))else(bif Nat.blt t 92 then(bif Nat.beq t 91 then some t91 else none)else(bif Nat.beq t 92 then some t92 else none)))else(bif Nat.blt t 96 then(bif Nat.blt t 94 then(bif Nat.beq t 93 then some t93 else none)else(bif Nat.beq t 94 then some t94 else none))else(bif Nat.blt t 97 then(bif Nat.beq t 96 then some t96 else none)else(bif Nat.beq t 97 then some t97 else none))))else(bif Nat.blt t 103 then(bif Nat.blt t 101 then(bif Nat.blt t 100 then(bif Nat.beq t 98 then some t98 else none)else(bif Nat.beq t 100 then some t100 else none))else(bif Nat.blt t 102 then(bif Nat.beq t 101 then some t101 else none)else(bif Nat.beq t 102 then some t102 else none)))else(bif Nat.blt t 105 then(bif Nat.blt t 104 then(bif Nat.beq t 103 then some t103 else none)else(bif Nat.beq t 104 then some t104 else none))else(bif Nat.blt t 106 then(bif Nat.beq t 105 then some t105 else none)else(bif Nat.blt t 107 then(bif Nat.beq t 106 then some t106 else none)else(bif Nat.beq t 107 then some t107 else none))))))else(bif Nat.blt t 116 then(bif Nat.blt t 112 then(bif Nat.blt t 110 then(bif Nat.blt t 109 then(bif Nat.beq t 108 then some t108 else none)else(bif Nat.beq t 109 then some t109 else none))else(bif Nat.blt t 111 then(bif Nat.beq t 110 then some t110 else none)else(bif Nat.beq t 111 then some t111 else none)))else(bif Nat.blt t 114 then(bif Nat.blt t 113 then(bif Nat.beq t 112 then some t112 else none)else(bif Nat.beq t 113 then some t113 else none))else(bif Nat.blt t 115 then(bif Nat.beq t 114 then some t114 else none)else(bif Nat.beq t 115 then some t115 else none))))else(bif Nat.blt t 120 then(bif Nat.blt t 118 then(bif Nat.blt t 117 then(bif Nat.beq t 116 then some t116 else none)else(bif Nat.beq t 117 then some t117 else none))else(bif Nat.blt t 119 then(bif Nat.beq t 118 then some t118 else none)else(bif Nat.beq t 119 then some t119 else none)))else(bif Nat.blt t 122 then(bif Nat.blt t 121 then(bif Nat.beq t 120 then some t120 else none)else(bif Nat.beq t 121 then some t121 else none))else(bif Nat.blt t 123 then(bif Nat.beq t 122 then some t122 else none)else(bif Nat.blt t 124 then(bif Nat.beq t 123 then some t123 else none)else(bif Nat.beq t 124 then some t124 else none)))))))else(bif Nat.blt t 144 then(bif Nat.blt t 135 then(bif Nat.blt t 131 then(bif Nat.blt t 129 then(bif Nat.blt t 127 then(bif Nat.beq t 126 then some t126 else none)else(bif Nat.beq t 127 then some t127 else none))else(bif Nat.blt t 130 then(bif Nat.beq t 129 then some t129 else none)else(bif Nat.beq t 130 then some t130 else none)))else(bif Nat.blt t 133 then(bif Nat.blt t 132 then(bif Nat.beq t 131 then some t131 else none)else(bif Nat.beq t 132 then some t132 else none))else(bif Nat.blt t 134 then(bif Nat.beq t 133 then some t133 else none)else(bif Nat.beq t 134 then some t134 else none))))else(bif Nat.blt t 139 then(bif Nat.blt t 137 then(bif Nat.blt t 136 then(bif Nat.beq t 135 then some t135 else none)else(bif Nat.beq t 136 then some t136 else none))else(bif Nat.blt t 138 then(bif Nat.beq t 137 then some t137 else none)else(bif Nat.beq t 138 then some t138 else none)))else(bif Nat.blt t 141 then(bif Nat.blt t 140 then(bif Nat.beq t 139 then some t139 else none)else(bif Nat.beq t 140 then some t140 else none))else(bif Nat.blt t 142 then(bif Nat.beq t 141 then some t141 else none)else(bif Nat.blt t 143 then(bif Nat.beq t 142 then some t142 else none)else(bif Nat.beq t 143 then some t143 else none))))))else(bif Nat.blt t 153 then(bif Nat.blt t 149 then(bif Nat.blt t 147 then(bif Nat.blt t 145 then(bif Nat.beq t 144 then some t144 else none)else(bif Nat.beq t 145 then some t145 else none))else(bif Nat.blt t 148 then(bif Nat.beq t 147 then some t147 else none)else(bif Nat.beq t 148 then some t148 else none)))else(bif Nat.blt t 151 then(bif Nat.blt t 150 then(bif Nat.beq t 149 then some t149 else none)else(bif Nat.beq t 150 then some t150 else none))else(bif Nat.blt t 152 then(bif Nat.beq t 151 then some t151 else none)else(bif Nat.beq t 152 then some t152 else none))))else(bif Nat.blt t 157 then(bif Nat.blt t 155 then(bif Nat.blt t 154 then(bif Nat.beq t 153 then some t153 else none)else(bif Nat.beq t 154 then some t154 else none))else(bif Nat.blt t 156 then(bif Nat.beq t 155 then some t155 else none)else(bif Nat.beq t 156 then some t156 else none)))else(bif Nat.blt t 159 then(bif Nat.blt t 158 then(bif Nat.beq t 157 then some t157 else none)else(bif Nat.beq t 158 then some t158 else none))else(bif Nat.blt t 160 then(bif Nat.beq t 159 then some t159 else none)else(bif Nat.blt t 161 then(bif Nat.beq t 160 then some t160 else none)else(bif Nat.beq t 161 then some t161 else none)))))))))else(bif Nat.blt t 235 then(bif Nat.blt t 199 then(bif Nat.blt t 178 then(bif Nat.blt t 170 then(bif Nat.blt t 166 then(bif Nat.blt t 164 then(bif Nat.blt t 163 then(bif Nat.beq t 162 then some t162 else none)else(bif Nat.beq t 163 then some t163 else none))else(bif Nat.blt t 165 then(bif Nat.beq t 164 then some t164 else none)else(bif Nat.beq t 165 then some t165 else none)))else(bif Nat.blt t 168 then(bif Nat.blt t 167 then(bif Nat.beq t 166 then some t166 else none)else(bif Nat.beq t 167 then some t167 else none))else(bif Nat.blt t 169 then(bif Nat.beq t 168 then some t168 else none)else(bif Nat.beq t 169 then some t169 else none))))else(bif Nat.blt t 174 then(bif Nat.blt t 172 then(bif Nat.blt t 171 then(bif Nat.beq t 170 then some t170 else none)else(bif Nat.beq t 171 then some t171 else none))else(bif Nat.blt t 173 then(bif Nat.beq t 172 then some t172 else none)else(bif Nat.beq t 173 then some t173 else none)))else(bif Nat.blt t 176 then(bif Nat.blt t 175 then(bif Nat.beq t 174 then some t174 else none)else(bif Nat.beq t 175 then some t175 else none))else(bif Nat.blt t 177 then(bif Nat.beq t 176 then some t176 else none)else(bif Nat.beq t 177 then some t177 else none)))))else(bif Nat.blt t 188 then(bif Nat.blt t 182 then(bif Nat.blt t 180 then(bif Nat.blt t 179 then(bif Nat.beq t 178 then some t178 else none)else(bif Nat.beq t 179 then some t179 else none))else(bif Nat.blt t 181 then(bif Nat.beq t 180 then some t180 else none)else(bif Nat.beq t 181 then some t181 else none)))else(bif Nat.blt t 184 then(bif Nat.blt t 183 then(bif Nat.beq t 182 then some t182 else none)else(bif Nat.beq t 183 then some t183 else none))else(bif Nat.blt t 186 then(bif Nat.beq t 184 then some t184 else none)else(bif Nat.beq t 186 then some t186 else none))))else(bif Nat.blt t 192 then(bif Nat.blt t 190 then(bif Nat.blt t 189 then(bif Nat.beq t 188 then some t188 else none)else(bif Nat.beq t 189 then some t189 else none))else(bif Nat.blt t 191 then(bif Nat.beq t 190 then some t190 else none)else(bif Nat.beq t 191 then some t191 else none)))else(bif Nat.blt t 195 then(bif Nat.blt t 194 then(bif Nat.beq t 192 then some t192 else none)else(bif Nat.beq t 194 then some t194 else none))else(bif Nat.blt t 196 then(bif Nat.beq t 195 then some t195 else none)else(bif Nat.blt t 197 then(bif Nat.beq t 196 then some t196 else none)else(bif Nat.beq t 197 then some t197 else none)))))))else(bif Nat.blt t 218 then(bif Nat.blt t 208 then(bif Nat.blt t 203 then(bif Nat.blt t 201 then(bif Nat.blt t 200 then(bif Nat.beq t 199 then some t199 else none)else(bif Nat.beq t 200 then some t200 else none))else(bif Nat.blt t 202 then(bif Nat.beq t 201 then some t201 else none)else(bif Nat.beq t 202 then some t202 else none)))else(bif Nat.blt t 205 then(bif Nat.blt t 204 then(bif Nat.beq t 203 then some t203 else none)else(bif Nat.beq t 204 then some t204 else none))else(bif Nat.blt t 206 then(bif Nat.beq t 205 then some t205 else none)else(bif Nat.beq t 206 then some t206 else none))))else(bif Nat.blt t 213 then(bif Nat.blt t 211 then(bif Nat.blt t 210 then(bif Nat.beq t 208 then some t208 else none)else(bif Nat.beq t 210 then some t210 else none))else(bif Nat.blt t 212 then(bif Nat.beq t 211 then some t211 else none)else(bif Nat.beq t 212 then some t212 else none)))else(bif Nat.blt t 215 then(bif Nat.blt t 214 then(bif Nat.beq t 213 then some t213 else none)else(bif Nat.beq t 214 then some t214 else none))else(bif Nat.blt t 216 then(bif Nat.beq t 215 then some t215 else none)else(bif Nat.blt t 217 then(bif Nat.beq t 216 then some t216 else none)else(bif Nat.beq t 217 then some t217 else none))))))else(bif Nat.blt t 226 then(bif Nat.blt t 222 then(bif Nat.blt t 220 then(bif Nat.blt t 219 then(bif Nat.beq t 218 then some t218 else none)else(bif Nat.beq t 219 then some t219 else none))else(bif Nat.blt t 221 then(bif Nat.beq t 220 then some t220 else none)else(bif Nat.beq t 221 then some t221 else none)))else(bif Nat.blt t 224 then(bif Nat.blt t 223 then(bif Nat.beq t 222 then some t222 else none)else(bif Nat.beq t 223 then some t223 else none))else(bif Nat.blt t 225 then(bif Nat.beq t 224 then some t224 else none)else(bif Nat.beq t 225 then some t225 else none))))else(bif Nat.blt t 230 then(bif Nat.blt t 228 then(bif Nat.blt t 227 then(bif Nat.beq t 226 then some t226 else none)else(bif Nat.beq t 227 then some t227 else none))else(bif Nat.blt t 229 then(bif Nat.beq t 228 then some t228 else none)else(bif Nat.beq t 229 then some t229 else none)))else(bif Nat.blt t 232 then(bif Nat.blt t 231 then(bif Nat.beq t 230 then some t230 else none)else(bif Nat.beq t 231 then some t231 else none))else(bif Nat.blt t 233 then(bif Nat.beq t 232 then some t232 else none)else(bif Nat.blt t 234 then(bif Nat.beq t 233 then some t233 else none)else(bif Nat.beq t 234 then some t234 else none))))))))else(bif Nat.blt t 269 then(bif Nat.blt t 252 then(bif Nat.blt t 243 then(bif Nat.blt t 239 then(bif Nat.blt t 237 then(bif Nat.blt t 236 then(bif Nat.beq t 235 then some t235 else none)else(bif Nat.beq t 236 then some t236 else none))else(bif Nat.blt t 238 then(bif Nat.beq t 237 then some t237 else none)else(bif Nat.beq t 238 then some t238 else none)))else(bif Nat.blt t 241 then(bif Nat.blt t 240 then(bif Nat.beq t 239 then some t239 else none)else(bif Nat.beq t 240 then some t240 else none))else(bif Nat.blt t 242 then(bif Nat.beq t 241 then some t241 else none)else(bif Nat.beq t 242 then some t242 else none))))else(bif Nat.blt t 247 then(bif Nat.blt t 245 then(bif Nat.blt t 244 then(bif Nat.beq t 243 then some t243 else none)else(bif Nat.beq t 244 then some t244 else none))else(bif Nat.blt t 246 then(bif Nat.beq t 245 then some t245 else none)else(bif Nat.beq t 246 then some t246 else none)))else(bif Nat.blt t 249 then(bif Nat.blt t 248 then(bif Nat.beq t 247 then some t247 else none)else(bif Nat.beq t 248 then some t248 else none))else(bif Nat.blt t 250 then(bif Nat.beq t 249 then some t249 else none)else(bif Nat.blt t 251 then(bif Nat.beq t 250 then some t250 else none)else(bif Nat.beq t 251 then some t251 else none))))))else(bif Nat.blt t 260 then(bif Nat.blt t 256 then(bif Nat.blt t 254 then(bif Nat.blt t 253 then(bif Nat.beq t 252 then some t252 else none)else(bif Nat.beq t 253 then some t253 else none))else(bif Nat.blt t 255 then(bif Nat.beq t 254 then some t254 else none)else(bif Nat.beq t 255 then some t255 else none)))else(bif Nat.blt t 258 then(bif Nat.blt t 257 then(bif Nat.beq t 256 then some t256 else none)else(bif Nat.beq t 257 then some t257 else none))else(bif Nat.blt t 259 then(bif Nat.beq t 258 then some t258 else none)else(bif Nat.beq t 259 then some t259 else none))))else(bif Nat.blt t 264 then(bif Nat.blt t 262 then(bif Nat.blt t 261 then(bif Nat.beq t 260 then some t260 else none)else(bif Nat.beq t 261 then some t261 else none))else(bif Nat.blt t 263 then(bif Nat.beq t 262 then some t262 else none)else(bif Nat.beq t 263 then some t263 else none)))else(bif Nat.blt t 266 then(bif Nat.blt t 265 then(bif Nat.beq t 264 then some t264 else none)else(bif Nat.beq t 265 then some t265 else none))else(bif Nat.blt t 267 then(bif Nat.beq t 266 then some t266 else none)else(bif Nat.blt t 268 then(bif Nat.beq t 267 then some t267 else none)else(bif Nat.beq t 268 then some t268 else none)))))))else(bif Nat.blt t 286 then(bif Nat.blt t 277 then(bif Nat.blt t 273 then(bif Nat.blt t 271 then(bif Nat.blt t 270 then(bif Nat.beq t 269 then some t269 else none)else(bif Nat.beq t 270 then some t270 else none))else(bif Nat.blt t 272 then(bif Nat.beq t 271 then some t271 else none)else(bif Nat.beq t 272 then some t272 else none)))else(bif Nat.blt t 275 then(bif Nat.blt t 274 then(bif Nat.beq t 273 then some t273 else none)else(bif Nat.beq t 274 then some t274 else none))else(bif Nat.blt t 276 then(bif Nat.beq t 275 then some t275 else none)else(bif Nat.beq t 276 then some t276 else none))))else(bif Nat.blt t 281 then(bif Nat.blt t 279 then(bif Nat.blt t 278 then(bif Nat.beq t 277 then some t277 else none)else(bif Nat.beq t 278 then some t278 else none))else(bif Nat.blt t 280 then(bif Nat.beq t 279 then some t279 else none)else(bif Nat.beq t 280 then some t280 else none)))else(bif Nat.blt t 283 then(bif Nat.blt t 282 then(bif Nat.beq t 281 then some t281 else none)else(bif Nat.beq t 282 then some t282 else none))else(bif Nat.blt t 284 then(bif Nat.beq t 283 then some t283 else none)else(bif Nat.blt t 285 then(bif Nat.beq t 284 then some t284 else none)else(bif Nat.beq t 285 then some t285 else none))))))else(bif Nat.blt t 294 then(bif Nat.blt t 290 then(bif Nat.blt t 288 then(bif Nat.blt t 287 then(bif Nat.beq t 286 then some t286 else none)else(bif Nat.beq t 287 then some t287 else none))else(bif Nat.blt t 289 then(bif Nat.beq t 288 then some t288 else none)else(bif Nat.beq t 289 then some t289 else none)))else(bif Nat.blt t 292 then(bif Nat.blt t 291 then(bif Nat.beq t 290 then some t290 else none)else(bif Nat.beq t 291 then some t291 else none))else(bif Nat.blt t 293 then(bif Nat.beq t 292 then some t292 else none)else(bif Nat.beq t 293 then some t293 else none))))else(bif Nat.blt t 298 then(bif Nat.blt t 296 then(bif Nat.blt t 295 then(bif Nat.beq t 294 then some t294 else none)else(bif Nat.beq t 295 then some t295 else none))else(bif Nat.blt t 297 then(bif Nat.beq t 296 then some t296 else none)else(bif Nat.beq t 297 then some t297 else none)))else(bif Nat.blt t 305 then(bif Nat.blt t 299 then(bif Nat.beq t 298 then some t298 else none)else(bif Nat.beq t 299 then some t299 else none))else(bif Nat.blt t 308 then(bif Nat.beq t 305 then some t305 else none)else(bif Nat.blt t 309 then(bif Nat.beq t 308 then some t308 else none)else(bif Nat.beq t 309 then some t309 else none))))))))))else none
theorem Xs{t:TypeId}{i:TI}(h:te t=some i):t<310:=by
 unfold te at h;cases hb:Nat.blt t 310 with
 | false=>rw[hb]at h;cases h
 | true=>exact Nat.le_of_ble_eq_true hb
theorem TU:wy Go.Proofs.Tryz.prog te 310=true:=by kernel_rfl
theorem Xt:wy Go.Proofs.Tryz.prog (TE.un te) 310=true:=by kernel_rfl
theorem Xu:Ey Go.Proofs.Tryz.prog te (TE.un te) 310=true:=by kernel_rfl
theorem H4:bw Go.Proofs.Tryz.prog te:=bw.mk' (N:=310) (T:=te) (fun t i h=> @Xs t i h) TU Xt Xu
theorem GC:Go.Proofs.Tryz.prog.follows .mixedOrders=true:=by kernel_rfl
def cB(n:Int):List PV:= [.int .i64 n]
structure cP where
 Site:Int
 Number:Int
 deriving Inhabited,DecidableEq
def cP.enc(x:cP):List PV:= [.int .i64 x.Site,.int .i64 x.Number]
structure cH where
 Steps:Int
 ct:Int
 deriving Inhabited,DecidableEq
def cH.enc(x:cH):List PV:= [.int .i64 x.Steps,.int .i64 x.ct]
structure ee where
 ID:cP
 fq:Int
 deriving Inhabited,DecidableEq
def ee.enc(x:ee):List PV:= [.int .i64 x.ID.Site,.int .i64 x.ID.Number,.int .i64 x.fq]
structure cf where
 ID:cP
 Name:List UInt8
 aT:cH
 aL:List ee
 deriving Inhabited,DecidableEq
def cf.enc(x:cf):List PV:= [.int .i64 x.ID.Site,.int .i64 x.ID.Number,.str x.Name,.int .i64 x.aT.Steps,.int .i64 x.aT.ct,.sl 3 (x.aL.map ee.enc)]
structure cy where
 Count:Int
 Unit:Int
 lu:Int
 lv:Int
 lx:Int
 ly:Int
 lz:Int
 lA:Int
 deriving Inhabited,DecidableEq
def cy.enc(x:cy):List PV:= [.int .i64 x.Count,.int .i64 x.Unit,.int .i64 x.lu,.int .i64 x.lv,.int .i64 x.lx,.int .i64 x.ly,.int .i64 x.lz,.int .i64 x.lA]
structure cN where
 At:Int
 yr:Int
 aaO:Bool
 deriving Inhabited,DecidableEq
def cN.enc(x:cN):List PV:= [.int .i64 x.At,.int .i64 x.yr,.bool x.aaO]
structure ba where
 At:Int
 fq:Int
 deriving Inhabited,DecidableEq
def ba.enc(x:ba):List PV:= [.int .i64 x.At,.int .i64 x.fq]
structure eT where
 Log:Int
 nh:Int
 deriving Inhabited,DecidableEq
def eT.enc(x:eT):List PV:= [.int .i64 x.Log,.int .i64 x.nh]
structure aH where
 Step:Int
 gJ:Int
 eU:Int
 deriving Inhabited,DecidableEq
def aH.enc(x:aH):List PV:= [.int .i64 x.Step,.int .i64 x.gJ,.int .i64 x.eU]
structure aS where
 aB:aH
 dQ:Bool
 Show:Int
 deriving Inhabited,DecidableEq
def aS.enc(x:aS):List PV:= [.int .i64 x.aB.Step,.int .i64 x.aB.gJ,.int .i64 x.aB.eU,.bool x.dQ,.int .i64 x.Show]
structure bE where
 aB:aH
 Log:Int
 My:Bool
 deriving Inhabited,DecidableEq
def bE.enc(x:bE):List PV:= [.int .i64 x.aB.Step,.int .i64 x.aB.gJ,.int .i64 x.aB.eU,.int .i64 x.Log,.bool x.My]
structure aU where
 Text:List UInt8
 kG:Int
 deriving Inhabited,DecidableEq
def aU.enc(x:aU):List PV:= [.str x.Text,.int .i64 x.kG]
structure aD where
 ID:cP
 Kind:Int
 Value:eT
 aE:List aS
 cQ:List bE
 cT:Int
 jQ:Int
 Dynamic:Int
 bz:List aU
 Co:Int
 Cp:Int
 deriving Inhabited,DecidableEq
def aD.enc(x:aD):List PV:= [.int .i64 x.ID.Site,.int .i64 x.ID.Number,.int .i64 x.Kind,.int .i64 x.Value.Log,.int .i64 x.Value.nh,.sl 5 (x.aE.map aS.enc),.sl 5 (x.cQ.map bE.enc),.int .i64 x.cT,.int .i64 x.jQ,.int .i64 x.Dynamic,.sl 2 (x.bz.map aU.enc),.int .i64 x.Co,.int .i64 x.Cp]
structure aG where
 cg:Int
 Count:Int
 iT:Int
 lW:Int
 deriving Inhabited,DecidableEq
def aG.enc(x:aG):List PV:= [.int .i64 x.cg,.int .i64 x.Count,.int .i64 x.iT,.int .i64 x.lW]
structure ax where
 ak:List aD
 eH:List aG
 deriving Inhabited,DecidableEq
def ax.enc(x:ax):List PV:= [.sl 13 (x.ak.map aD.enc),.sl 4 (x.eH.map aG.enc)]
structure aI where
 bm:List ba
 ai:List ax
 deriving Inhabited,DecidableEq
def aI.enc(x:aI):List PV:= [.sl 2 (x.bm.map ba.enc),.sl 2 (x.ai.map ax.enc)]
structure aj where
 ID:cP
 bC:cy
 Length:Int
 dO:Int
 im:Bool
 bS:Int
 cF:Int
 Jump:Int
 lX:Int
 AS:Int
 Break:Int
 jE:List UInt8
 iq:List cN
 Cells:List aI
 deriving Inhabited,DecidableEq
def aj.enc(x:aj):List PV:= [.int .i64 x.ID.Site,.int .i64 x.ID.Number,.int .i64 x.bC.Count,.int .i64 x.bC.Unit,.int .i64 x.bC.lu,.int .i64 x.bC.lv,.int .i64 x.bC.lx,.int .i64 x.bC.ly,.int .i64 x.bC.lz,.int .i64 x.bC.lA,.int .i64 x.Length,.int .i64 x.dO,.bool x.im,.int .i64 x.bS,.int .i64 x.cF,.int .i64 x.Jump,.int .i64 x.lX,.int .i64 x.AS,.int .i64 x.Break,.str x.jE,.sl 3 (x.iq.map cN.enc),.sl 2 (x.Cells.map aI.enc)]
structure br where
 ID:cP
 Kind:Int
 dR:cP
 To:cP
 deriving Inhabited,DecidableEq
def br.enc(x:br):List PV:= [.int .i64 x.ID.Site,.int .i64 x.ID.Number,.int .i64 x.Kind,.int .i64 x.dR.Site,.int .i64 x.dR.Number,.int .i64 x.To.Site,.int .i64 x.To.Number]
structure ae where
 yu:List UInt8
 Written:Bool
 ay:List cf
 aa:List aj
 au:List br
 fB:List cP
 deriving Inhabited,DecidableEq
def ae.enc(x:ae):List PV:= [.str x.yu,.bool x.Written,.sl 6 (x.ay.map cf.enc),.sl 22 (x.aa.map aj.enc),.sl 7 (x.au.map br.enc),.sl 2 (x.fB.map cP.enc)]
structure bD where
 fq:Int
 dO:Int
 bC:cy
 deriving Inhabited,DecidableEq
def bD.enc(x:bD):List PV:= [.int .i64 x.fq,.int .i64 x.dO,.int .i64 x.bC.Count,.int .i64 x.bC.Unit,.int .i64 x.bC.lu,.int .i64 x.bC.lv,.int .i64 x.bC.lx,.int .i64 x.bC.ly,.int .i64 x.bC.lz,.int .i64 x.bC.lA]
structure dX where
 cj:Int
 aB:aH
 deriving Inhabited,DecidableEq
def dX.enc(x:dX):List PV:= [.int .i64 x.cj,.int .i64 x.aB.Step,.int .i64 x.aB.gJ,.int .i64 x.aB.eU]
structure bV where
 bc:Int
 At:Int
 bA:Int
 cj:Int
 deriving Inhabited,DecidableEq
def bV.enc(x:bV):List PV:= [.int .i64 x.bc,.int .i64 x.At,.int .i64 x.bA,.int .i64 x.cj]
structure cr where
 Kind:Int
 dR:bV
 To:bV
 deriving Inhabited,DecidableEq
def cr.enc(x:cr):List PV:= [.int .i64 x.Kind,.int .i64 x.dR.bc,.int .i64 x.dR.At,.int .i64 x.dR.bA,.int .i64 x.dR.cj,.int .i64 x.To.bc,.int .i64 x.To.At,.int .i64 x.To.bA,.int .i64 x.To.cj]
structure aq where
 On:Int
 zH:Int
 Number:Int
 Part:Int
 bA:Int
 cj:Int
 Event:cP
 Head:Int
 deriving Inhabited,DecidableEq
def aq.enc(x:aq):List PV:= [.int .i64 x.On,.int .i64 x.zH,.int .i64 x.Number,.int .i64 x.Part,.int .i64 x.bA,.int .i64 x.cj,.int .i64 x.Event.Site,.int .i64 x.Event.Number,.int .i64 x.Head]
structure ah where
 Xv:Int
 Object:cP
 deriving Inhabited,DecidableEq
def ah.enc(x:ah):List PV:= [.int .i64 x.Xv,.int .i64 x.Object.Site,.int .i64 x.Object.Number]
structure cY where
 bA:Int
 cj:Int
 Event:Int
 On:Int
 zH:Int
 deriving Inhabited,DecidableEq
def cY.enc(x:cY):List PV:= [.int .i64 x.bA,.int .i64 x.cj,.int .i64 x.Event,.int .i64 x.On,.int .i64 x.zH]
structure bt where
 Kind:Int
 Part:Int
 bA:Int
 bc:Int
 cj:Int
 Event:Int
 PX:Int
 deriving Inhabited,DecidableEq
def bt.enc(x:bt):List PV:= [.int .i64 x.Kind,.int .i64 x.Part,.int .i64 x.bA,.int .i64 x.bc,.int .i64 x.cj,.int .i64 x.Event,.int .i64 x.PX]
structure ck where
 started:Bool
 body:Int
 used:Int
 ending:Int
 ended:Bool
 cR:Int
 deriving Inhabited,DecidableEq
def ck.enc(x:ck):List PV:= [.bool x.started,.int .i64 x.body,.int .i64 x.used,.int .i64 x.ending,.bool x.ended,.int .i64 x.cR]
structure SC where
 name:List UInt8
 TV:Int
 line:Int
 PY:Int
 middle:Int
 TW:Int
 Xw:Int
 deriving Inhabited,DecidableEq
def SC.enc(x:SC):List PV:= [.str x.name,.int .u8 x.TV,.int .i64 x.line,.int .i64 x.PY,.int .i64 x.middle,.int .i64 x.TW,.int .i64 x.Xw]
end Go.Hm
namespace Go.Proofs.YtnmohbeakccnkaaGreat
open Go.ChangeShapes Go.WideShapes Go.ChangeAt Go.RowKit Go.Hm
section
variable {H:Type} {enc:TypeId×Value→H} {P:Program}
theorem zZ{f:Func}{s:ChangeSpec}{apart fresh handsOn again:Bool}{W agC:World}{args:Array Value}{v:Value}{ds gs:List (DataW H)}{before pa pv:List MemPlace}
  (hW:DataW.Whole enc P f.params.toList s.vars apart W args.toList ds gs before)
  (JP:∀(b:Nat) (sp:Nat→Bool) (hd:Bool),DataW.TrodAll enc P agC b sp hd f.resultTypes.toList (v.resultList f.resultTypes.size) (s.fn H (ds++gs)).results [])
  (fR:∀sp:Nat→Bool,(∀p∈before,sp p.block=true)→DataW.TrodAll enc P agC 0 sp true f.params.toList args.toList (s.fn H (ds++gs)).args pa)
  (SD:∀sp:Nat→Bool,(∀p∈before,sp p.block=true)→DataW.TrodVars enc P agC sp s.vars (s.fn H (ds++gs)).vars pv)
  (j4:before=pa++pv) (hk:W.keptBut agC (· ∈before)) (TK:∀a,a.block<W.heap.size→agC.frozen? a=W.frozen? a)
  (cq:∀(j:Nat) (t:TypeId) (r:Value),f.resultTypes[j]? =some t→(v.resultList f.resultTypes.size)[j]? =some r→Value.okWide P agC .any 0 t r):
  s.post enc P f apart fresh handsOn again W args v agC:=by
 have aN:∀p∈before,p.block<W.heap.size:=fun p hp=>hW.lt p hp
 have hold:∀p∈before,(fun b=>decide (b<W.heap.size)) p.block=true:=fun p hp=>by simpa using aN p hp
 refine⟨ds,gs,before,[],pa,pv,hW,JP _ _ _,fR _ hold,SD _ hold,World.keptBut_mono (fun p hp=>⟨hp,?_⟩) hk,fun _=>?_⟩
 ·rw[j4,List.mem_append]at hp;exact Or.inr hp
 ·obtain⟨_,_,_,_,_,hz,hn⟩:=hW;refine⟨cq,_,_,([]++pa)++pv,⟨[]++pa,pv,trodAll_append (fR _ (fun _ _=>rfl)) (JP _ _ _),SD _ (fun _ _=>rfl),rfl,?_,?_⟩,?_⟩
  ·intro b off hp;have hm:MemPlace.cell b off∈before:=by rw[j4];simpa using hp
   rw[TK _ (aN _ hm)];exact hz b off hm
  ·intro ha;have:=hn ha;rw[j4]at this;simpa using this
  ·intro p hp _;rw[j4];simpa using hp
end
theorem Tryz.own:ownKnob Tryz.prog.godebug=none:=by kernel_rfl
theorem Tryz.laidOut:laidOutB Tryz.prog=true:=by kernel_rfl
def Cq(W:World):G:=⟨tM W,fun _=> .none,fun _=>0,[]⟩
theorem Ez(W:World):eW (Cq W) W:=fun b hb=>by
 refine⟨?_,rfl⟩;show(match W.heap[b]? with | some (.cells c _ _)=>c.size | _=>0)=0;rw[Array.getElem?_eq_none (by omega)]
theorem EA{g':G}{W agC:World}(h:Go.Hm.Frame (Cq W) W g' agC):Below W.heap.size W agC:=
 ⟨h.os,h.tape,h.output,h.size,fun k hk=>(h.bM k hk rfl).1⟩
theorem Xx:Tryz.prog.readableRec 27=true:=by kernel_rfl
theorem TX{a b:Nat}(h:Nat.blt a b=true):a<b:=Nat.le_of_ble_eq_true h
theorem aaP:27<Tryz.prog.types.size:=by
 have:Nat.blt 27 Tryz.prog.types.size=true:=by kernel_rfl
 exact TX this
set_option maxRecDepth 100000 in
theorem PZ:ku te 20 27=true:=by kernel_rfl
set_option maxRecDepth 100000 in
theorem lifted(TY:∀(cs:List PV) (i aC:Int),Shape te 20 27 cs→(Lit.int .i64 i).wf=true→(Lit.int .i64 aC).wf=true→fA Tryz.prog te 3 [.agg cs,.p (.int .i64 i),.p (.int .i64 aC)] [] (.p (.bool true)) [])
  (os:Os) (started:os.Started) (H:Type) (enc:TypeId×Value→H):
  ReturnsInHanded {} Tryz.checked os 3 .any (Rows.timelineScoresSpec.pre6 enc Tryz.prog Tryz.f3 Rows.timelineScoresRow.domain false) (Rows.timelineScoresSpec.post enc Tryz.prog Tryz.f3 false true false false):=by
 refine returnsInHanded_of_change (C:=Tryz.checked) Tryz.own started (by kernel_rfl) Tryz.func3
  (ChangeSpec.witness6 (enc:=enc) (C:=Tryz.checked) false ⟨#[],#[.agg #[.string ⟨#[]⟩,.bool false,.slice none 0 0,.slice none 0 0,.slice none 0 0,.slice none 0 0],.int .i64 0,.int .i64 0],[]⟩ 8 (by kernel_rfl) (by kernel_rfl) (by kernel_rfl) (by kernel_rfl)) ?_
 intro W base args ds gs before SE hW aed _;have mh:∀(j:Nat) t v,Tryz.f3.params[j]? =some t→args[j]? =some v→Value.okWide Tryz.prog W .any base t v:=SE
 have aaQ:=hW;obtain⟨p,q,hA0,hV,rfl,TK,rv⟩:=hW;have hA:DataW.TrodAll enc Tryz.prog W 0 (fun _=>true) true Tryz.f3.params.toList args.toList ds p:=hA0;rw[Tryz.params3]at hA mh;obtain⟨v0,v1,v2,d0,d1,d2,p0,p1,p2,rfl,rfl,rfl,h0,h1,h2⟩:=trodAll_three hA;obtain⟨rfl,rfl⟩:=trodVars_none hV;obtain⟨i,rfl,rfl,rfl,w1⟩:=open_int Tryz.underlying3 (mh 1 3 v1 rfl rfl) h1;obtain⟨aC,rfl,rfl,rfl,w2⟩:=open_int Tryz.underlying3 (mh 2 3 v2 rfl rfl) h2;have Xo:=mh 0 27 v0 rfl rfl;clear hA0 SE;simp only[List.append_nil]at aaQ;have aaR:∃xs,v0= .agg xs:=by
  unfold Value.okWide at Xo;rw[Tryz.underlying27]at Xo;obtain⟨cs,e,_⟩:=Xo;exact⟨cs,e⟩
 obtain⟨xs,rfl⟩:=aaR;obtain⟨fuel,hf⟩:=h0;obtain⟨cs,pH,K4⟩:=Mw H4 20 fuel PZ hf;obtain⟨_,hj⟩:=TY cs i aC K4 w1 w2;have hc:=hj (Cq W) W #[.agg xs,.int .i64 i,.int .i64 aC] (Ez W) (fun b k=>by simp[Cq]) rfl (fun j u x hu hx=>by
  match j with
  | 0=>simp at hu hx;subst hu;subst hx;exact .agg pH
  | 1=>simp at hu hx;subst hu;subst hx;exact .p (.int _ _)
  | 2=>simp at hu hx;subst hu;subst hx;exact .p (.int _ _)
  | j+3=>simp at hu) (by simp)
 refine hc.mono fun e agC hR=>?_
 obtain⟨x,g',rfl,lp,_,hr,_⟩:=hR;have hx:x= .bool true:=cK.ja (aA.eg hr);subst hx;have hb:=EA lp;refine⟨_,rfl,zZ (pa:=p0) (pv:= []) aaQ (fun _ _ _=>trodAll_mk1 (shut_bool Tryz.underlying4 _)) (fun sp Tc=>?_) (fun _ _=>rfl) (by simp) (hb.frame _) lp.fz (ok_one (by kernel_rfl) rfl (okWide_bool_mk Tryz.underlying4 _))⟩;have aN:∀x∈p0,x.block<W.heap.size:=fun x hx=>by
  have:=aaQ.lt x (by simp[hx]);exact this
 have h27:=WideElems.Trod_stays (sp':=sp) Tryz.laidOut Xx aaP ⟨fuel,hf⟩ (fun x hx=>hb.same (aN x hx)) (fun x hx=>Tc x (by simp[hx]));have:=trodAll_mk3 h27 (shut_int Tryz.underlying3 w1) (shut_int Tryz.underlying3 w2);simp only[List.append_nil]at this;exact this
theorem TZ(TY:∀(cs:List PV) (i aC:Int),Shape te 20 27 cs→(Lit.int .i64 i).wf=true→(Lit.int .i64 aC).wf=true→fA Tryz.prog te 3 [.agg cs,.p (.int .i64 i),.p (.int .i64 aC)] [] (.p (.bool true)) []):Rows.TimelineScoresSaid:=
 OpenClaim.holds_of_wide 3 Tryz.f3 rfl rfl rfl rfl rfl rfl rfl ⟨rfl,rfl,rfl,rfl,rfl⟩ rfl rfl rfl rfl rfl (by kernel_rfl) Tryz.func3 (by kernel_rfl)
  (of_decide_eq_true (by kernel_rfl)) (by unfold Func.isWrapper;first | (rw[if_pos (by decide+kernel)];kernel_rfl) | (rw[if_neg (by decide+kernel)];exact⟨rfl,rfl⟩))
  (fun os started H enc _=>lifted TY os started H enc)
end Go.Proofs.YtnmohbeakccnkaaGreat
namespace Go.Hm
section
variable {P:Program} {T:TE} {n:Nat} {g0 g g':G} {w0 w w':World} {S:St} {a:Act} {next:Act→World→Prop} {K:St→Prop} {F:Fence}
theorem tP(hF:F.plain=Fence.wide)(f:FuncId):F.fn f:=by
 show F.plain.fn f;rw[hF];trivial
theorem sn(hF:F.plain=Fence.wide):F.depth=none:=by
 show F.plain.depth=none;rw[hF];rfl
theorem yv(hF:F.plain=Fence.wide){m:Nat}{f:FuncId}{args:Array Value}{R:Ending→World→Prop}(h:Calls P f args w R):CallsIn F m P f args w R:=by
 show CallsIn F.plain m P f args w R;rw[hF];exact callsIn_wide.2 h
theorem Ke(hF:F.plain=Fence.wide){m:Nat}{r:String}{args:Array Value}{R:Value→World→Prop}(h:Rows P r args w R):RowsIn F m P r args w R:=by
 show RowsIn F.plain m P r args w R;rw[hF];intro c cs _;obtain⟨v,w',h1,h2⟩:=h c cs;exact⟨v,w',h1,stepsIn_wide.2 h2⟩
theorem wide_round(hF:F.plain=Fence.wide){m:Nat}{l:Nat}{f:FuncId}{tmps:Array Value}{x y:Code}{R:Ending→World→Prop}(h:RoundIn Fence.wide m P l f tmps x y w R):RoundIn F m P l f tmps x y w R:=by
 show RoundIn F.plain m P l f tmps x y w R;rw[hF];exact h
theorem P0(hF:F.plain=Fence.wide){o:Oper}{Q:Exit→Act→World→Prop}{r:Result Next}(h:o.upon P a next Q r):o.uponIn F 0 P a next Q r:=by
 have hd:F.depth.isSome=true→1≤0:=fun e=>by rw[sn hF]at e;cases e
 cases r with
 | ok x w'=>
  cases x<;>simp only[Oper.upon]at h<;>simp only[Oper.uponIn]<;>
   first
    | exact h
    | exact⟨hd,yv hF h⟩
    | exact⟨hd,Ke hF h⟩
    | exact h.elim
 | halt x w'=>cases x<;>simp only[Oper.upon]at h<;>simp only[Oper.uponIn]<;>first | exact h | exact h.elim
def qM(o:Oper):Bool:=match o.op with | .defer _=>false | _=>true
def lY:List Oper→Bool
 | []=>true
 | o::r=>qM o&&lY r
theorem GD{o:Oper}(h:qM o=true):∀c,o.op≠ .defer c:=fun c e=>by unfold qM at h;rw[e]at h;cases h
theorem nW:∀ {l:List Oper},lY l=true→ ∀ {i:Nat} {o:Oper},l[i]? =some o→qM o=true
 | [],_,i,o,hi=>by simp at hi
 | p::r,h,i,o,hi=>by
  unfold lY at h;rw[Bool.and_eq_true]at h;cases i with
  | zero=>simp at hi;subst hi;exact h.1
  | succ i=>exact nW h.2 (by simpa using hi)
theorem pW(hF:F.plain=Fence.wide){o:Oper}(hd:qM o=true){Q:Exit→Act→World→Prop}(h:o.wp P a w next Q):o.wpIn F 0 P a w next Q:=by
 refine⟨fun f _=>tP hF f,?_⟩;rw[Oper.semAt_eq _ _ _ (GD hd)];exact P0 hF h
def QN(K:Act→World→Prop):Exit→Act→World→Prop
 | .normal,a,w=>K a w
 | _,_,_=>False
theorem T0{K:Act→World→Prop} :¬LetsOut (QN K):=fun⟨_,_,h⟩=>h
theorem Cr(hF:F.plain=Fence.wide){ops:Array Oper}(hd:lY ops.toList=true){md:Region.Mode}{K:Act→World→Prop} :∀(fuel:Nat) (ez:Array Bool) (a:Act) (w:World),wpAny P md ops (QN K) fuel ez a w→wpAnyIn F 0 P md ops (QN K) fuel ez a w
 | 0,ez,a,w,h=>h
 | fuel+1,ez,a,w,h=>by
  refine⟨h.1,fun i hi=>?_⟩;have h2:=h.2 i hi;unfold wpOp at h2;unfold wpOpIn;cases ho:ops[i]? with
  | none=>rw[ho]at h2;exact Cr hF hd fuel _ _ _ h2
  | some o=>
   rw[ho]at h2;simp only at h2 ⊢;split
   ·rename_i hw;rw[if_pos hw]at h2;rcases h2 with h2 | h2
    ·exact Oper.wpIn_mono (fun a w h=>Cr hF hd fuel _ a w h) (pW hF (nW hd (i:=i) (by rw[Array.getElem?_toList];exact ho)) h2)
    ·exact absurd h2.2 T0
   ·rename_i hw;rw[if_neg hw]at h2;exact⟨fun f _=>tP hF f,Cr hF hd fuel _ _ _ h2⟩
def oR(P:Program)(T:TE)(agG:List AV)(ext:List er)(r:AV)(ext':List er):Prop:=
 ∀(g:G) (w:World) (b:Nat) (xs:Array Value),eW g w→(∀b k,g.K b≠ .box (.own k))→agG.length=xs.size+1→(∀u,agG[0]? =some u→aA g w u (.func (.yield b) #[] #[]))→
  (∀(j:Nat) u x,agG[j+1]? =some u→xs[j]? =some x→aA g w u x)→(∀(j:Nat) b,ext[j]? =some b→iB T g w (.ext j) b)→
  YieldAt Fence.wide 0 P b xs w fun e w'=>∃x g',e= .returned x∧Frame g w g' w'∧eW g' w'∧m8 g' w' r x∧
   (∀(j:Nat) b,ext'[j]? =some b→iB T g' w' (.ext j) b)∧ ∀(j:Nat),j<ext.length→g'.B (.ext j)=g.B (.ext j)
abbrev YJ:=List AV→List er→AV→List er→Prop
def pX(S:St):Nat→Nat→List Loc
 | _,0=> []
 | j,n+1=>match S.bx (.ext j)with
  | some _=> .ext j::pX S (j+1) n
  | none=>pX S (j+1) n
def GF(Y:YJ)(S:St)(dst:Option Nat)(args:List AV)(K:St→Prop):Prop:=
 match S.aJ with
 | true=>False
 | false=>
  rQ args fun args=>rR (sQ [] (args.flatMap (kX 3))) fun l0=>xC S 3 l0 fun l1=>rR (sQ l1 (pX S 0 8)) fun iY=>
  match fj (fun a=>lg (j7 iY) 4 (oG a)) args,fj (fun l=>match S.bx l with | some b=>rP (j7 iY) b | none=>none) iY with
  | some agG,some bs=>∃r zE,Y agG bs r zE∧zE.length=iY.length∧
    match lg (cz iY) 4 r,fj (rP (cz iY)) zE with
    | some agf,some l=>bT (fW S iY l) dst agf K
    | _,_=>False
  | _,_=>False
theorem Mz{l:Loc}{vs:List AV}{xs:List Value}{x:Value}(h:aA g w (.yl l vs xs) x):∃b,x= .func (.yield b) #[] #[]∧g.B l=b∧g.K b= .box l∧vs.length=xs.length∧ ∀(j:Nat) u x,vs[j]? =some u→xs[j]? =some x→aA g w u x:=by
 cases h with
 | yl h1 h2 h3 h4=>exact⟨_,rfl,h1,h2,h3,h4⟩
theorem Kf{o:Oper}{x:Operand}{args:Array Operand}{tys:Array TypeId}(ho:o.op= .call ⟨.value x,args,tys⟩){b:Nat}(hx:a.eval x= .func (.yield b) #[] #[]):
  (execOp a.eval o).run P w=(Instr.yield b (args.map a.eval)).run P w:=by
 simp only[execOp,ho,resolve,hx,Deferred.ofValue,Sem.run_bind,Sem.run_pure,Result.andThen_ok,invoke];simp
theorem EB(hF:F.plain=Fence.wide)(hT:bw P T)(hs:bR T n g0 w0 S g a w){o:Oper}{x:Operand}{P1:Array Operand}{tys:Array TypeId}(ho:o.op= .call ⟨.value x,P1,tys⟩){l:Loc}{vs:List AV}{xs:List Value}{args:List AV}
  (hx:aA g w (.yl l vs xs) (a.eval x)) (hl:args.length=P1.size) (hr:∀(j:Nat) u x,args[j]? =some u→(P1.map a.eval)[j]? =some x→cU g w u x)
  (h:GF (oR P T) S o.dst (.yl l vs xs::args) K) (hd:∀e,o.dst=some e→e<n) (hn:Rest T n g0 w0 K next) {Q:Exit→Act→World→Prop} :o.wpIn F 0 P a w next Q:=by
 obtain⟨b,ex,aaS⟩:=Mz hx;have jz:=hx;rw[ex]at jz;unfold GF at h;split at h
 ·exact h.elim
 ·rename_i fE;rw[eP]at h;simp only[gx,ic]at h;split at h
  ·rename_i agG bs hm ny;obtain⟨r,zE,hj,hlen,h⟩:=h;split at h
   ·rename_i r1 lb zQ PH;have rv:=kg (ls:=pX S 0 8) (mB (S:=S) (m:=3) (kg (ls:=(AV.yl l vs xs::args).flatMap (kX 3)) List.nodup_nil));revert hm ny hlen zQ PH h rv;generalize sQ (reach S 3 (sQ [] ((AV.yl l vs xs::args).flatMap (kX 3)))) (pX S 0 8)=ls;intro hm ny hlen zQ PH h rv;obtain⟨m1,m2⟩:=dr hm;obtain⟨b1,b2⟩:=dr ny;obtain⟨c1,c2⟩:=dr PH;have ri:∀(j:Nat) l,ls[j]? =some l→ ∃b,S.bx l=some b:=fun j l hl=>by
     have hj:j<bs.length:=by rw[b1];exact(List.getElem?_eq_some_iff.1 hl).1
     have:=b2 j l _ hl (List.getElem?_eq_getElem hj);split at this
     ·rename_i b hb;exact⟨b,hb⟩
     ·cases this
    have hc:=hj (g.call ls) w b (P1.map a.eval) (nM hs.fresh) (fun b k=>r9 b k) (by simp at m1 ⊢;omega) (fun u hu=>by
     exact lT jf 4 (m2 0 _ u rfl hu) (by exact jz)) (fun j u y hu hy=>by
     have hj:j<args.length:=by have:=(List.getElem?_eq_some_iff.1 hu).1;simp at m1;omega
     have hv:args[j]? =some args[j]:=List.getElem?_eq_getElem hj;exact lT jf 4 (m2 (j+1) _ u (by simpa using hv) hu) (qF (hr j _ y hv hy))) (fun j b hb=>by
     have hj:j<ls.length:=by have:=(List.getElem?_eq_some_iff.1 hb).1;omega
     have hv:ls[j]? =some ls[j]:=List.getElem?_eq_getElem hj;have:=b2 j _ b hv hb;split at this
     ·rename_i b0 Gd;exact kE jf (nb rv hv) this (hs.boxes _ _ Gd)
     ·cases this)
    obtain⟨fn,tmps,assign,body,cn,GG⟩:=hc;refine⟨fun f _=>tP hF f,?_⟩;rw[Oper.semAt_eq _ _ _ (fun c e=>by rw[ho]at e;cases e),Kf ho ex,cn];refine⟨fun e=>(by rw[sn hF]at e;cases e),wide_round hF (GG.mono fun e w' he=>?_)⟩;obtain⟨x,g',rfl,h1,h2,h3,h4,h5⟩:=he;obtain⟨g2,k1,k2,k3⟩:=nN (bs:=lb) hs fE (o.dst.getD 0) rv h1 h2 (by omega) ri (fun j hj=>h5 j (by omega)) (fun j m b hm hb g2 hR=>by
     have hj:j<zE.length:=by have:=(List.getElem?_eq_some_iff.1 hb).1;omega
     have hv:zE[j]? =some zE[j]:=List.getElem?_eq_getElem hj;exact kE hR (show cz ls (.ext j)=some m by show fT ls j=some m;rw[eG];exact hm) (c2 j _ b hv hb) (h4 j _ hv))
    have h6:=Eb k2 k3 zQ h3;refine D9 h k1 hd ?_ hn;rcases h6 with⟨sz,rows,e,hO⟩ | h6
    ·refine .inl ⟨sz,rows,e,fun d pC=>?_⟩;rw[pC]at hO;exact hO
    ·exact .inr h6
   ·exact h.elim
  ·exact h.elim
theorem yw(w:World)(o:Obj)(a:Addr)(h:a.block<w.heap.size):(w.alloc o).frozen? a=w.frozen? a:=by
 unfold World.frozen?;rw[RowKit.Below.heap_alloc w o _ h]
theorem EC(hf:eW g w)(o:Obj)(m:Nat)(k:BK)(B:Loc→Nat)(hB:∀l,g.K (g.B l)= .box l→B l=g.B l):j8 (fun _=>False) g w (g.new w.heap.size m k B) (w.alloc o) where
 os:=rfl
 tape:=rfl
 output:=rfl
 size:=by simp
 same b hb _:=⟨RowKit.Below.heap_alloc w o b hb,by simp only[G.new];rw[if_neg (by omega)],by simp only[G.new];rw[if_neg (by omega)]⟩
 ge:=by
  refine⟨⟨fun b=>?_,fun b i hi=>?_,fun b xs c h0 hm=>?_⟩,fun l hl=>?_⟩
  ·simp only[G.new];split
   ·rename_i e;subst e;rw[(hf _ (Nat.le_refl _)).1];exact Nat.zero_le _
   ·exact Nat.le_refl _
  ·have hb:b≠w.heap.size:=by
    intro e;subst e;rw[(hf _ (Nat.le_refl _)).1]at hi;omega
   exact World.cell?_alloc_old w o ⟨b,i,none⟩ hb
  ·exact(RowKit.Below.heap_alloc w o b (bJ hm)).trans hm
  ·have dA:g.B l≠w.heap.size:=by
    intro e;rw[e,(hf _ (Nat.le_refl _)).2]at hl;cases hl
   refine⟨hB l hl,?_⟩;simp only[G.new];rw[if_neg dA];exact hl
 fresh b hb:=by
  rw[World.size_alloc]at hb;simp only[G.new];rw[if_neg (by omega),if_neg (by omega)];exact hf b (by omega)
 fz a ha:=yw w o a ha
theorem GH{g1 g2 g3:G}{w1 w2 w3:World}(h:j8 (fun _=>False) g1 w1 g2 w2)(k:j8 (fun _=>False) g2 w2 g3 w3):j8 (fun _=>False) g1 w1 g3 w3:=
 xe (Mt h k) (fun _ e=>e.elim id id)
theorem MA(hf:eW g w):j8 (fun _=>False) g w g w.drew:=
 ⟨rfl,rfl,rfl,Nat.le_refl _,fun _ _ _=>⟨rfl,rfl,rfl⟩,⟨⟨fun _=>Nat.le_refl _,fun _ _ _=>rfl,fun _ _ _ _ h=>h⟩,fun _ h=>⟨rfl,h⟩⟩,hf,fun _ _=>rfl⟩
def lZ(s:List UInt8):List (List PV):=s.map fun b=> [.int .u8 (b.toNat:Int)]
def H5(T:TE)(S:St)(dst:Option Nat)(c:bq)(gs:Option (Nat×Bool))(t agh:TypeId)(x:AV)(K:St→Prop):Prop:=
 match T.isStr t,T agh,x with
 | true,some ⟨.slice e,_,_,_,_⟩,.p (.str s)=>match T e with
  | some ⟨.int .u8,_,_,_,_⟩=>gX S dst c gs (.val (.p (.sl 1 (lZ s)))) K
  | _=>False
 | _,_,_=>False
theorem rB(s:List UInt8):(lZ s).flatten=s.map fun b=>PV.int .u8 (b.toNat:Int):=by
 induction s with
 | nil=>rfl
 | cons b r ih=>simp[lZ]at ih ⊢;exact ih
theorem ED(hT:bw P T)(hs:bR T n g0 w0 S g a w){o:Oper}{t agh e:TypeId}{x:Operand}(ho:o.op= .convert t agh x)(ht:T.isStr t=true){q1 q2:Nat}{q3:List AV}{q4:Bool}(O9:T agh=some ⟨.slice e,q1,q2,q3,q4⟩){r1 r2:Nat}{r3:List AV}{r4:Bool}
  (he:T e=some ⟨.int .u8,r1,r2,r3,r4⟩) {s:List UInt8} (hx:a.eval x= .string ⟨s.toArray⟩):
  ∃v w' g',(execOp a.eval o).run P w= .ok (.value v) w'∧bR T n g0 w0 S g' a w'∧aA g' w' (.p (.sl 1 (lZ s))) v:=by
 have cn:=run_bytes_of_string (P:=P) w t agh e ⟨s.toArray⟩ (sX hT ht) (ga hT O9) (qz hT he);have dZ:(⟨s.toArray⟩:ByteArray).size=s.length:=by simp[ByteArray.size]
 obtain⟨cap,Xy⟩:∃cap,cap=grownCap w (⟨s.toArray⟩:ByteArray).size 0 e:=⟨_,rfl⟩
 have oN:s.length≤cap:=by rw[Xy,dZ];exact grownCap_ge _ _ _ _
 rw[←Xy]at cn;obtain⟨row,LZ⟩:∃row,row=bytesRow ⟨s.toArray⟩ cap:=⟨_,rfl⟩
 rw[←LZ]at cn;have r7:=MA hs.fresh;have nz:=EC (w:=w.drew) r7.fresh (.cells row e (row.size,row.size+1)) s.length .none g.B (fun _ _=>rfl);have hc:=GH r7 nz;have DF:(w.drew.alloc (.cells row e (row.size,row.size+1))).heap[w.heap.size]? =some (.cells row e (row.size,row.size+1)):=jc w.drew _;refine⟨.slice (some ⟨w.heap.size,0,none⟩) (⟨s.toArray⟩:ByteArray).size cap,w.drew.alloc (.cells row e (row.size,row.size+1)),_,(by simp only[execOp,ho,hx,Sem.run_bind,cn,Result.andThen_ok,Sem.run_pure]),hs.grow hc (fun k=>lS (w:=w.drew) r7.fresh (by simp) _),?_⟩;refine .p ?_;have hl:(lZ s).length=s.length:=by simp[lZ]
 rw[dZ,←hl];refine .sl (fun j=> .int .u8 ((s.getD j 0).toNat:Int)) (by rw[hl];exact oN) (fun r hr=>?_) ?_ (fun j u hj=>?_) (fun j u hj=>?_)
 ·obtain⟨b,_,rfl⟩:=List.mem_map.1 hr;rfl
 ·rw[hl];have e2:(g.new w.drew.heap.size s.length .none g.B).H w.heap.size=s.length:=by
   show(if w.heap.size=w.heap.size then s.length else _)=_;rw[if_pos rfl]
  rw[e2];omega
 ·rw[rB,List.getElem?_map]at hj;obtain⟨b,hb,rfl⟩:=Option.map_eq_some_iff.1 hj;have aN:=(List.getElem?_eq_some_iff.1 hb).1;rw[Nat.zero_add];unfold World.cell?;simp only[DF];rw[LZ];unfold bytesRow;rw[Array.getElem?_append_left (by simp;exact aN)];simp[hb,List.getD_eq_getElem?_getD]
 ·rw[rB,List.getElem?_map]at hj;obtain⟨b,hb,rfl⟩:=Option.map_eq_some_iff.1 hj;have:s.getD j 0=b:=by rw[List.getD_eq_getElem?_getD,hb];rfl
  rw[this];exact .int _ _
def Xz(T:TE)(S:St)(dst:Option Nat)(t:TypeId)(x:AV)(K:St→Prop):Prop:=
 match T.jH t,x.rows with
 | true,some (_,rows)=>∀b:Bool,(rows≠ []→b=false)→bT S dst (.p (.bool b)) K
 | _,_=>False
theorem GI{v:AV}{sz:Nat}{rows:List (List PV)}{x:Value}(h:cU g w v x)(hr:v.rows=some (sz,rows)):∃A m c,x= .slice A m c∧(rows≠ []→A≠none):=by
 have key:cK w g.H (.sl sz rows) x→ ∃A m c,x= .slice A m c∧(rows≠ []→A≠none):=fun h=>by
  cases h with
  | nil sz A c h=>exact⟨_,_,_,rfl,fun e=>absurd rfl e⟩
  | sl vs hc hr hH bU hv=>exact⟨_,_,_,rfl,fun _=>by simp⟩
 unfold AV.rows at hr;split at hr
 ·cases hr;exact key (aA.eg h)
 ·cases hr;exact key h
 ·cases hr;exact key h
 ·cases hr
theorem P2(hT:bw P T){o:Oper}{t yt:TypeId}{x:Operand}(ho:o.op= .binOp .eql t x (.const (.slice none 0 0)) yt)(ht:T.jH t=true){A:Option Addr}{m c:Nat}(hx:a.eval x= .slice A m c):
  (execOp a.eval o).run P w= .ok (.value (.bool A.isNone)) w:=by
 obtain⟨e,hu⟩:=xH hT ht;have hy:a.eval (.const (.slice none 0 0))= .slice none 0 0:=rfl;have hg:(eqGuard .eql t x (.const (.slice none 0 0)) (.slice A m c) (.slice none 0 0)).run P w= .ok () w:=by
  unfold eqGuard;simp
 refine mw ho hx hy hg ?_;have e2:∀d,(Op.equalIn (d+1) t (.slice A m c) (.slice none 0 0)).run P w= .ok A.isNone w:=by
  intro d;unfold Op.equalIn;rw[Sem.run_bind,bl hu,Result.andThen_ok];cases A with
  | none=>simp only[Sem.run_pure]
  | some a=>simp only[Sem.run_pure,Option.isNone]
 have e3:binOp .eql t (.slice A m c) (.slice none 0 0)=(do let b ←Op.equal t (.slice A m c) (.slice none 0 0);Pure.pure (.bool b)):=by
  unfold binOp;rfl
 rw[e3,Sem.run_bind];have e4:(Op.equal t (.slice A m c) (.slice none 0 0)).run P w= .ok A.isNone w:=e2 _;rw[e4,Result.andThen_ok,Sem.run_pure]
def Cs:PV→Bool
 | .sl _ _=>false
 | .mp _=>false
 | _=>true
def MB(J:uF)(S:St)(dst:Option Nat)(f:FuncId)(args:List AV)(K:St→Prop):Prop:=
 rQ args fun args=>match fj (mn 4) args,dst with
 | some agG,some d=>match S.bx (.own d)with
  | none=>∃sz rows,J f agG [] (.own sz rows) []∧(rows≠ []∧ ∀r∈rows,∀v∈r,Cs v=true)∧S.gG d (.bs (.own d) sz rows.length) fun S=>K (S.bK (.own d) (.rows sz rows))
  | some _=>False
 | _,_=>False
theorem MC{H agk:Nat→Nat}{v:PV}{x:Value}(hv:Cs v=true)(h:cK w H v x):cK w agk v x:=by
 cases h with
 | bool b=>exact .bool b
 | int k n=>exact .int k n
 | str l=>exact .str l
 | nil=>cases hv
 | sl=>cases hv
theorem Kg(hs:bR T n g0 w0 S g a w){d:Nat}(hb:S.bx (.own d)=none)(hf:Frame g.bare w g' w')(lp:eW g' w'){sz:Nat}{rows:List (List PV)}{x:Value}(hr:dG g' w' .res sz rows x)(dA:rows≠ [])(JC:∀r∈rows,∀v∈r,Cs v=true):
  ∃g2,bR T n g0 w0 (S.bK (.own d) (.rows sz rows)) g2 a w'∧aA g2 w' (.bs (.own d) sz rows.length) x:=by
 have PD:g.K (g.B (.own d))≠ .box (.own d):=by
  intro h;obtain⟨b,mi⟩:=hs.live d h;rw[hb]at mi;cases mi
 rcases hr with⟨h1,_⟩ | ⟨b,cap,cur,e,rfl,DF,oL,hm,JL,tk,hC,hH,hK⟩
 ·exact absurd h1 dA
 ·have oN:¬b<w.heap.size:=by
   intro aN;rw[(hf.bM b aN rfl).2.2]at hK;cases hK
  let g2:G:=⟨fun c=>if c=b then 0 else g'.H c,fun c=>if c<w.heap.size then g.K c else if c=b then .box (.own d)else .none,fun l=>if l= .own d then b else g.B l,g.D⟩
  have hc:j8 (fun _=>False) g w g2 w':= {
   os:=hf.os
   tape:=hf.tape
   output:=hf.output
   size:=hf.size
   same:=fun c hc _=>by
    obtain⟨h1,h2,_⟩:=hf.bM c hc rfl;refine⟨h1,?_,?_⟩
    ·show(if c=b then 0 else g'.H c)=g.H c;rw[if_neg (fun e=>oN (by rw[←e];exact hc))];exact h2
    ·show(if c<w.heap.size then g.K c else _)=g.K c;rw[if_pos hc]
   ge:=⟨⟨fun c=>by
     show g.H c≤(if c=b then 0 else g'.H c);split
     ·rename_i e;subst e;rw[(hs.fresh c (by omega)).1];exact Nat.le_refl _
     ·exact hf.ge.ext.le c,hf.ge.ext.cell,hf.ge.ext.ob⟩,fun l hl=>by
    have dA:l≠ .own d:=fun e=>PD (by subst e;exact hl)
    have aN:g.B l<w.heap.size:=by
     rcases Nat.lt_or_ge (g.B l) w.heap.size with h | h
     ·exact h
     ·rw[(hs.fresh _ h).2]at hl;cases hl
    refine⟨by show(if l= .own d then b else g.B l)=g.B l;rw[if_neg dA],?_⟩;show(if g.B l<w.heap.size then g.K (g.B l)else _)=_;rw[if_pos aN];exact hl⟩
   fresh:=fun c hc=>by
    have mi:=bJ DF;have h1:¬c=b:=by omega
    have h2:¬c<w.heap.size:=by have:=hf.size;omega
    refine⟨?_,?_⟩
    ·show(if c=b then 0 else g'.H c)=0;rw[if_neg h1];exact(lp c hc).1
    ·show(if c<w.heap.size then g.K c else if c=b then BK.box (.own d)else .none)= .none;rw[if_neg h2,if_neg h1]
   fz:=hf.fz}
  have Zr:g2.B (.own d)=b:=by show(if Loc.own d= .own d then b else _)=b;rw[if_pos rfl]
  have hKd:g2.K b= .box (.own d):=by show(if b<w.heap.size then g.K b else if b=b then BK.box (.own d)else .none)=_;rw[if_neg oN,if_pos rfl]
  refine⟨g2,?_,.bs Zr hKd oL⟩;exact {
   defers:=hs.defers
   size:=hs.size
   bH:=fun t=>(hs.bH t).jq hc (fun x=>x) (fun l he=>by
    obtain⟨_,b,hb⟩:=hs.aJ t l he;exact⟨(hs.boxes l b hb).gV,fun x=>x⟩) (fun b hb=>(hs.fresh b hb).2)
   boxes:=fun l c fE=>by
    rw[St.cM]at fE;split at fE
    ·rename_i e;subst e;cases fE;refine⟨by rw[Zr];exact hKd,by rw[Zr];show(if b=b then 0 else _)=0;rw[if_pos rfl],cur,e,by rw[Zr];exact DF,by rw[JL];exact Nat.mul_le_mul_right _ oL,tk,hC.1,fun j u x hu hx=>?_⟩;have hp:=hC.2 j u x hu hx;obtain⟨r,zG,Wc⟩:=List.mem_flatten.1 (List.mem_of_getElem? hu);exact MC (JC r zG u Wc) hp
    ·exact(hs.boxes l c fE).jq hc (fun x=>x) (fun _ x=>x)
   fresh:=hc.fresh
   dc:=hs.dc
   aJ:=fun t l e=>by
    obtain⟨h1,b,h2⟩:=hs.aJ t l e;refine⟨h1,?_⟩;rw[St.cM];split
    ·exact⟨_,rfl⟩
    ·exact⟨b,h2⟩
   dm:=hs.dm
   de:=hs.de
   live:=fun k hk=>by
    rw[St.cM];split
    ·exact⟨_,rfl⟩
    ·rename_i dA;have WO:¬(Loc.own k= .own d):=fun e=>dA e.symm
     have e1:g2.B (.own k)=g.B (.own k):=by
      show(if Loc.own k= .own d then b else g.B (.own k))=_;rw[if_neg WO]
     rw[e1]at hk;have hk:(if g.B (.own k)<w.heap.size then g.K (g.B (.own k))else if g.B (.own k)=b then BK.box (.own d)else .none)= .box (.own k):=hk;split at hk
     ·exact hs.live k hk
     ·split at hk
      ·injection hk with hk;exact absurd hk.symm WO
      ·cases hk
   frame:=hc.frame (fun x=>x) hs.frame}
theorem GJ(hT:bw P T)(hs:bR T n g0 w0 S g a w){o:Oper}{f:FuncId}{xs:Array Value}{args:List AV}(h:MB (fA P T) S o.dst f args K)
  (cn:mL P f→(execOp a.eval o).run P w= .ok (.enter f xs) w) (hl:args.length=xs.size) (hr:∀(j:Nat) u x,args[j]? =some u→xs[j]? =some x→cU g w u x) (hd:∀e,o.dst=some e→e<n) (hn:Rest T n g0 w0 K next) {Q:Exit→Act→World→Prop} :o.wp P a w next Q:=by
 unfold MB at h;rw[eP]at h;split at h
 ·rename_i agG d has cE;split at h
  ·rename_i hb;obtain⟨sz,rows,hj,⟨dA,JC⟩,h⟩:=h;obtain⟨cq,hj⟩:=hj;obtain⟨e1,e2⟩:=As (g2:=g.bare) has hl hr rfl;have hc:=hj g.bare w xs (xW hs.fresh) (fun b k=>by simp[G.bare]) e1 e2 (by simp);refine B0 (R:=fun x w'=>∃g',Frame g.bare w g' w'∧eW g' w'∧m8 g' w' (.own sz rows) x) (cn cq) (hc.mono fun e w' h=>?_) (fun x w' hR=>?_)
   ·obtain⟨x,g',rfl,h1,h2,h3,_⟩:=h;exact⟨x,rfl,g',h1,h2,h3⟩
   ·obtain⟨g',h1,h2,h3⟩:=hR;obtain⟨g2,k1,k2⟩:=Kg hs hb h1 h2 h3 dA JC;rw[cE];obtain⟨D4,hk⟩:=bP h;exact hn _ _ _ _ hk (k1.put (S:=S.bK (.own d) (.rows sz rows)) (hd d cE) D4 (.of k2) (fun s sz rows e=>by cases e) (fun l e=>by cases e) (fun sz rows e=>by cases e) (fun s wt v' e=>by cases e))
  ·exact h.elim
 ·exact h.elim
def H6:AV→AV
 | .own sz []=> .iA sz
 | .mo sz []=> .iA sz
 | v=>v
def P3:AV→AV
 | .iA sz=> .own sz []
 | v=>v
def GK(v:AV):Option (List AV):=match v.iQ with
 | some c=>some (c.map .p)
 | none=>v.cells
def so(ev:Operand→AV)(place:Nat→Option (Nat×Nat)):List (Nat×Operand)→Option (List (Nat×Nat×List AV))
 | []=>some []
 | (i,x)::r=>match place i,GK (ev x),so ev place r with
  | some (o,n),some c,some l=>some ((o,n,c)::l)
  | _,_,_=>none
def EE:List AV→List (Nat×Nat×List AV)→Option (List AV)
 | z,[]=>some z
 | z,(o,n,c)::r=>bif Nat.beq c.length n&&Nat.ble (o+n) z.length then EE (cG z o c) r else none
def GL(T:TE)(S:St)(dst:Option Nat)(t:TypeId)(parts:List (Nat×Operand))(K:St→Prop):Prop:=
 match T t with
 | some ⟨.struct fs,_,_,z,_⟩=>match so (bO T S [] 0) (fun i=>match fT fs i with | some (o,ft)=>some (o,T.size ft) | none=>none) parts with
  | some ps=>match EE (z.map H6) ps with
   | some cs=>bT S dst (.mix cs) K
   | none=>False
  | none=>False
 | some ⟨.arr n e,_,_,z,_⟩=>match so (bO T S [] 0) (fun i=>bif Nat.blt i n then some (i*T.size e,T.size e)else none) parts with
  | some ps=>match EE (z.map H6) ps with
   | some cs=>bT S dst (.mix cs) K
   | none=>False
  | none=>False
 | _=>False
def P4(T:TE)(S:St)(dst:Option Nat)(e:TypeId)(cs:List AV)(K:St→Prop):Prop:=
 match dst with
 | some d=>match S.bx (.own d)with
  | none=>bif T.ea e cs.length then S.gG d (.ptr (.own d) 0) fun S=>K (S.bK (.own d) (.mix e (cs.map P3)))else False
  | some _=>False
 | none=>False
def AL(g:G)(w:World)(cs:List AV)(xs:List Value):Prop:=cs.length=xs.length∧ ∀(j:Nat) u x,cs[j]? =some u→xs[j]? =some x→aA g w u x
theorem AL.put{cs ds:List AV}{xs ys:List Value}(h:AL g w cs xs)(k:AL g w ds ys)(m:Nat):AL g w (cG cs m ds) (cG xs m ys):=by
 refine⟨by rw[aV,aV];exact h.1,fun j u x hu hx=>?_⟩;rw[eV]at hu hx;by_cases hc:m≤j∧j<m+ds.length∧j<cs.length
 ·rw[if_pos hc]at hu;rw[if_pos ⟨hc.1,by have:=k.1;omega,by have:=h.1;omega⟩]at hx;exact k.2 _ _ _ hu hx
 ·rw[if_neg hc]at hu;rw[if_neg (by have:=k.1;have:=h.1;omega)]at hx;exact h.2 _ _ _ hu hx
theorem Kh{v:AV}{x:Value}(h:pD v x=true)(g:G)(w:World):aA g w (H6 v) x:=by
 have h2:=xJ h g w;unfold pD at h;split at h<;>first | exact .iA _ | exact h2 | (cases h;done) | skip
 all_goals (rename_i rows _<;>cases rows<;>first | exact .iA _ | cases h)
theorem GM{v:AV}{x:Value}(h:cU g w v x){c:List AV}(hc:GK v=some c):AL g w c x.cells.toList:=by
 unfold GK at hc;split at hc
 ·rename_i agp hp;cases hc;have hr:=fm h hp;refine⟨by simpa using hr.1,fun j u y hu hy=>?_⟩;rw[List.getElem?_map]at hu;obtain⟨v',w7,rfl⟩:=Option.map_eq_some_iff.1 hu;exact .p (hr.2 j v' y w7 hy)
 ·rename_i hp;obtain⟨c1,c2⟩:=uO h hp hc;exact⟨by simpa using c1,fun j u y hu hy=>c2 j u y hu (by rw[←Array.getElem?_toList];exact hy)⟩
theorem EF{place:Nat→Option (Nat×Nat)}{ev:Operand→AV}(dq:∀x,cU g w (ev x) (a.eval x))(parts:List (Nat×Operand)):
  ∀ {ps:List (Nat×Nat×List AV)} {zs cs:List AV} {cells:Array Value},so ev place parts=some ps→EE zs ps=some cs→AL g w zs cells.toList→
   ∃r:Array Value,Instr.fill place cells (parts.map fun p=>(p.1,a.eval p.2))=some r∧AL g w cs r.toList∧r.size=cells.size:=by
 induction parts with
 | nil=>
  intro ps zs cs cells h1 h2 h3;cases h1;cases h2;exact⟨cells,rfl,h3,rfl⟩
 | cons p r ih=>
  obtain⟨i,x⟩:=p;intro ps zs cs cells h1 h2 h3;unfold so at h1;split at h1
  ·rename_i o m c l hp hc hl;cases h1;unfold EE at h2;cases hb:(Nat.beq c.length m&&Nat.ble (o+m) zs.length)with
   | false=>rw[hb]at h2;cases h2
   | true=>
    rw[hb]at h2;simp only[cond_true]at h2;rw[Bool.and_eq_true]at hb;have hm:=beq_true.1 hb.1;have hle:=Nat.le_of_ble_eq_true hb.2;have hr:=GM (dq x) hc;have dZ:(a.eval x).cells.size=m:=by have:=hr.1;simp at this;omega
    have Z3:zs.length=cells.size:=by have:=h3.1;simpa using this
    obtain⟨agf,hf,xa,hs⟩:=ih hl h2 (show AL g w (cG zs o c) ((a.eval x).cells.zipIdx.foldl (fun(cs:Array Value) (p:Value×Nat)=>cs.setIfInBounds (o+p.2) p.1) cells).toList by
     rw[nJ];exact h3.put hr o)
    refine⟨agf,?_,xa,?_⟩
    ·simp only[List.map_cons,Instr.fill,hp];rw[if_neg (by simp[dZ];omega)];exact hf
    ·rw[hs];have:=congrArg List.length (nJ cells (a.eval x).cells o);rw[aV]at this;simpa using this
  ·cases h1
theorem EG(hT:bw P T)(hs:bR T n g0 w0 S g a w){o:Oper}{t:TypeId}{parts:Array (Nat×Operand)}(ho:o.op= .build t parts)(h:GL T S o.dst t parts.toList K)(hd:∀e,o.dst=some e→e<n)(hn:Rest T n g0 w0 K next){Q:Exit→Act→World→Prop} :o.wp P a w next Q:=by
 have dq:∀x,cU g w (bO T S [] 0 x) (a.eval x):=fun x=>bN hT hs bq.eN 0 x
 have hz:∀i,T t=some i→ ∃z:Value,(zeroValue t).run P w= .ok z w∧AL g w (i.zero.map H6) z.cells.toList:=by
  intro i hi;obtain⟨ti,z,h1,h2,h3,h4,h5,h6,h7⟩:=hT.info t i hi;obtain⟨e1,e2⟩:=uH h7;refine⟨z,by simp[zeroValue,typeInfo,h1,h5],by simpa using e1,fun j u x hu hx=>?_⟩;rw[List.getElem?_map]at hu;obtain⟨v,hv,rfl⟩:=Option.map_eq_some_iff.1 hu;exact Kh (e2 j v x hv hx) g w
 have Lw:(parts.map fun(x:Nat×Operand)=>(x.1,a.eval x.2)).toList=parts.toList.map fun p=>(p.1,a.eval p.2):=by simp
 have fin:∀(r:Array Value) (cs:List AV),AL g w cs r.toList→bT S o.dst (.mix cs) K→(execOp a.eval o).run P w= .ok (.value (.agg r)) w→o.wp P a w next Q:=fun r cs hc hk cn=>
  cW cn (gy hk hs hd (.mix (by simpa using hc.1) (fun j u x hu hx=>hc.2 j u x hu (by rw[Array.getElem?_toList];exact hx))) hn)
 unfold GL at h;split at h
 ·rename_i fs _ _ z _ ht;obtain⟨gs,hu,he⟩:=kd hT ht;split at h
  ·rename_i ps j4;split at h
   ·rename_i cs rX;obtain⟨zv,Pa,pH⟩:=hz _ ht;have K5:gs.toList.mapM (fun f=>(P.info? f.type).map fun i=>(f.offset,i.size))=some (fs.map fun f=>(f.1,T.size f.2)):=by
     subst he;have hk:∀f∈gs.toList,(P.info? f.type).map (fun i=>(f.offset,i.size))=some (f.offset,T.size f.type):=by
      intro f hf;obtain⟨i,hi⟩:=hT.ZX _ _ _ _ _ _ ht (f.offset,f.type) (List.mem_map.2 ⟨f,hf,rfl⟩);obtain⟨ti,z,h1,h2,_⟩:=hT.info _ _ hi;simp[h1,h2,TE.size,hi]
     clear hu j4;generalize gs.toList=l at hk;clear ht;induction l with
     | nil=>rfl
     | cons f l ih=>
      rw[List.mapM_cons,hk f (by simp)];simp[ih (fun f hf=>hk f (by simp[hf]))]
    have FU:∀i,((fs.map fun f=>(f.1,T.size f.2)).toArray)[i]? =(match fT fs i with | some (o,ft)=>some (o,T.size ft) | none=>none):=by
     intro i;rw[eG];simp only[List.getElem?_toArray,List.getElem?_map];cases fs[i]? with
     | none=>rfl
     | some f=>rfl
    obtain⟨r,hr,xa,_⟩:=EF dq parts.toList j4 rX pH;refine fin r cs xa h ?_;have Al:Instr.fill (((fs.map fun f=>(f.1,T.size f.2)).toArray)[·]?) zv.cells (parts.toList.map fun p=>(p.1,a.eval p.2))=some r:=by
     rw[←hr];congr 1;funext i;exact FU i
    simp only[execOp,ho,Instr.build,Sem.run_bind,Pa,Result.andThen_ok,bl hu,Array.mapM_eq_mapM_toList,Sem.run_map,Sem.run_pure];have hm:(gs.toList.mapM fun f=>(do let s ←sizeOf f.type;Pure.pure (f.offset,s):Sem (Nat×Nat))).run P w= .ok (fs.map fun f=>(f.1,T.size f.2)) w:=by
     have:=run_places w gs.toList _ K5;simpa using this
    rw[hm];simp only[Result.andThen_ok,Lw,Al,Sem.run_pure]
   ·exact h.elim
  ·exact h.elim
 ·rename_i m e _ _ z _ ht;have hu:=nG hT ht;obtain⟨ie,fQ⟩:=hT.arr _ _ _ _ _ _ _ ht;have BN:T.size e=ie.size:=by simp[TE.size,fQ]
  split at h
  ·rename_i ps j4;split at h
   ·rename_i cs rX;obtain⟨zv,Pa,pH⟩:=hz _ ht;have Td:so (bO T S [] 0) (fun i=>some (i*ie.size,ie.size)) parts.toList=some ps:=by
     generalize parts.toList=l at j4;clear rX;induction l generalizing ps with
     | nil=>exact j4
     | cons p l ih=>
      obtain⟨i,x⟩:=p;unfold so at j4 ⊢;cases hb:Nat.blt i m with
      | false=>rw[hb]at j4;simp at j4
      | true=>
       rw[hb]at j4;simp only[cond_true]at j4 ⊢;split at j4
       ·rename_i agq ago agp age h1 h2 h3;cases j4;rw[h2,ih _ h3,←BN];cases h1;rfl
       ·cases j4
    obtain⟨r,hr,xa,_⟩:=EF dq parts.toList Td rX pH;refine fin r cs xa h ?_;simp only[execOp,ho,Instr.build,Sem.run_bind,Pa,Result.andThen_ok,bl hu,dp hT fQ,Lw,hr,Sem.run_pure]
   ·exact h.elim
  ·exact h.elim
 ·exact h.elim
theorem MD{l:Loc}{i:Nat}{v:AV}{x:Value}(h:aA g w v x):fk g w l i (P3 v) x:=by
 cases v with
 | iA sz=>cases h;exact Or.inl ⟨rfl,rfl⟩
 | _=>exact fk.of h
theorem yx(hT:bw P T)(hs:bR T n g0 w0 S g a w){o:Oper}{e:TypeId}{x:Operand}(ho:o.op= .box e x){cs:List AV}(hc:AL g w cs (a.eval x).cells.toList)(h:P4 T S o.dst e cs K)(hd:∀e,o.dst=some e→e<n)(hn:Rest T n g0 w0 K next){Q:Exit→Act→World→Prop} :o.wp P a w next Q:=by
 refine cW (HP ho) ?_;unfold P4 at h;split at h
 ·rename_i d cE;split at h
  ·rename_i hb;rw[cE];cases dZ:T.ea e cs.length with
   | false=>rw[dZ]at h;exact h.elim
   | true=>
    rw[dZ]at h;simp only[cond_true]at h;obtain⟨ie,fQ,Th⟩:=dT.1 dZ;obtain⟨hl,hk⟩:=bP h;have dP:cs.length=(a.eval x).cells.size:=by simpa using hc.1
    obtain⟨g',gu,hp⟩:=hs.kb hb (.cells (a.eval x).cells e) (Go.RowKit.frozen?_alloc_cells w _ _) (.mix e (cs.map P3)) (fun g' hH hK hB oN tq=>
     ⟨by rw[hB];exact hK,by rw[hB,hH];simp,_,e,by rw[hB];exact F9 e w,by rw[←dP,mz fQ,Th],by simpa using dP,fun j v y hv hy=>by
      rw[List.getElem?_map]at hv;obtain⟨u,hu,rfl⟩:=Option.map_eq_some_iff.1 hv;exact MD ((hc.2 j u y hu (by rw[Array.getElem?_toList];exact hy)).ext oN)⟩)
    exact hn ((S.bK (.own d) (.mix e (cs.map P3))).put d (.ptr (.own d) 0)) _ _ _ hk (gu.BW (hd d cE) hl hp)
  ·exact h.elim
 ·exact h.elim
def XA(T:TE)(S:St)(ty:TypeId)(x:Operand):AV:=match x with
 | .const (.slice none 0 0)=>match T.elem ty with
  | some e=> .iA (T.size e)
  | none=> .dead
 | x=>bO T S [] ty x
theorem P5(hT:bw P T)(hs:bR T n g0 w0 S g a w)(ty:TypeId)(x:Operand):cU g w (XA T S ty x) (a.eval x):=by
 unfold XA;split
 ·split
  ·exact aA.iA _
  ·exact aA.dead _
 ·exact bN hT hs bq.eN ty _
theorem XB(hT:bw P T)(hs:bR T n g0 w0 S g a w){args:Array Operand}{tys:Array TypeId}(hl:args.size=tys.size):
  (((args.toList.zip tys.toList).map fun(x,ty)=>XA T S ty x)).length=(args.map a.eval).size∧
  ∀(j:Nat) u x,((args.toList.zip tys.toList).map fun(x,ty)=>XA T S ty x)[j]? =some u→(args.map a.eval)[j]? =some x→cU g w u x:=by
 refine⟨by simp[hl],fun j u x hu hx=>?_⟩;rw[List.getElem?_map]at hu;obtain⟨⟨y,ty⟩,h1,rfl⟩:=Option.map_eq_some_iff.1 hu;rw[List.getElem?_zip_eq_some]at h1;rw[Array.getElem?_map]at hx;obtain⟨z,h2,rfl⟩:=Option.map_eq_some_iff.1 hx;rw[←Array.getElem?_toList,h1.1]at h2;cases h2;exact P5 hT hs ty y
def XC(T:TE)(S:St)(t:TypeId)(parts:List (Nat×Operand)):Bool:=
 (match T t with
 | some ⟨_,_,_,z,_⟩=>z.any fun v=>match v with | .own _ _=>true | .mo _ _=>true | .aP=>true | _=>false
 | none=>false)||parts.any fun p=>(bO T S [] 0 p.2).iQ.isNone
def ME(S:St)(apps:List Nat)(v:AV):Option (Loc×TypeId×List AV×Nat×Nat×List (List PV)):=
 match apps with
 | []=>match v with
  | .ptr l off=>match S.bx l with
   | some (.mix ty cs)=>match fT cs off with
    | some (.own sz rows)=>some (l,ty,cs,off,sz,rows)
    | _=>none
   | _=>none
  | _=>none
 | _=>none
def MF(T:TE)(S:St)(dst:Option Nat)(t:TypeId)(l:Loc)(ty:TypeId)(cs:List AV)(off sz:Nat)(rows:List (List PV))(K:St→Prop):Prop:=
 match S.aJ,T.jH t,dst with
 | false,true,some d=>(S.bK l (.mix ty (cG cs off [.p (.sl sz rows)]))).gG d (.own sz rows) K
 | _,_,_=>False
theorem MG(hT:bw P T){t:TypeId}(h:T.jH t=true):∃i,T t=some i∧T.isAgg t=false:=by
 unfold TE.jH at h;split at h
 ·rename_i h1;exact⟨_,h1,by unfold TE.isAgg;rw[h1]⟩
 ·cases h
theorem GN(hT:bw P T)(hs:bR T n g0 w0 S g a w){o:Oper}{t:TypeId}{x:Operand}(ho:o.op= .load t x){apps:List Nat}{l:Loc}{ty:TypeId}{cs:List AV}{off sz:Nat}{rows:List (List PV)}
  (ht:ME S apps (bO T S [] 0 x)=some (l,ty,cs,off,sz,rows)) (h:MF T S o.dst t l ty cs off sz rows K) (hd:∀e,o.dst=some e→e<n) (hn:Rest T n g0 w0 K next) {Q:Exit→Act→World→Prop} :o.wp P a w next Q:=by
 have hX:=bN hT hs bq.eN 0 x;unfold ME at ht;split at ht
 ·split at ht
  ·rename_i age sY he;split at ht
   ·rename_i Sc Af hb;split at ht
    ·rename_i db jx hg;cases ht;rw[he]at hX;obtain⟨ex,hK⟩:=jm hX;obtain⟨_,hH,xs,agh,hh,dZ,hl,hC⟩:=hs.boxes l _ hb;rw[eG]at hg;have aN:off<xs.size:=by have:=(List.getElem?_eq_some_iff.1 hg).1;omega
     have hy:xs[off]? =some xs[off]:=Array.getElem?_eq_getElem aN;have hO:dG g w (.cell l off) sz rows xs[off]:=hC off _ _ hg hy;unfold MF at h;split at h
     ·rename_i d fE kC cE;obtain⟨i,hi,dJ⟩:=MG hT kC;have bU:w.cell? ⟨g.B l,off,none⟩=some xs[off]:=by rw[bF hh];exact hy
      refine cW (jd ho ex (jA hT hi dJ bU)) ?_;obtain⟨g1,hc,hO1,_,vR⟩:=dG.hand (q':= .slot d) hs.fresh hO;have gY:=hs.inner hb (i:=off) hc (fun k hk=>vR _ hk) (v':= .p (.sl sz rows)) (fun z hz=>by
       rw[bU]at hz;cases hz;exact fk.of (.p hO1.K3))
      rw[cE];exact my h gY (hd d cE) hO1 hn
     ·exact h.elim
    ·cases ht
   ·cases ht
  ·cases ht
 ·cases ht
def MH(T:TE)(J:uF)(Y:YJ)(ops:List Oper)(apps:List Nat)(o:Oper)(S:St)(K:St→Prop):Prop:=
 match o.op with
 | .call ⟨.value (.tmp s),args,tys⟩=>match o.guard,S.get s with
  | none,.yl l vs xs=>GF Y S o.dst (.yl l vs xs::((args.toList.zip tys.toList).map fun(x,ty)=>bO T S [] ty x)) K
  | _,_=>aQ T J ops apps false o S K
 | .call ⟨.value (.func f),args,tys⟩=>match o.guard with
  | none=>aQ T J ops apps false o S K∨MB J S o.dst f ((args.toList.zip tys.toList).map fun(x,ty)=>bO T S [] ty x) K∨
    g7 J S o.dst f ((args.toList.zip tys.toList).map fun(x,ty)=>XA T S ty x) [] none false K
  | some _=>aQ T J ops apps false o S K
 | .binOp .eql t x (.const (.slice none 0 0)) _=>match o.guard with
  | none=>Xz T S o.dst t (bO T S [] t x) K
  | some _=>False
 | .load t x=>match o.guard,ME S apps (bO T S [] 0 x)with
  | none,some (l,ty,cs,off,sz,rows)=>aQ T J ops apps false o S K∨MF T S o.dst t l ty cs off sz rows K
  | _,_=>aQ T J ops apps false o S K
 | .build t parts=>match o.guard,XC T S t parts.toList with
  | none,true=>GL T S o.dst t parts.toList K
  | _,_=>aQ T J ops apps false o S K
 | .box e x=>match o.guard,bO T S [] e x with
  | none,.iA sz=>P4 T S o.dst e [.iA sz] K
  | none,.mix cs=>P4 T S o.dst e cs K
  | _,_=>aQ T J ops apps false o S K
 | .convert t agh x=>match T agh with
  | some ⟨.slice _,_,_,_,_⟩=>match o.guard with
   | none=>H5 T S o.dst [] none t agh (bO T S [] t x) K
   | some (j,w)=>match mJ ops j with
    | some s=>match chain ops S 8 j w with
     | some c=>H5 T S o.dst c (some (s,w)) t agh (bO T S c t x) K
     | none=>False
    | none=>False
  | _=>aQ T J ops apps false o S K
 | _=>aQ T J ops apps false o S K
theorem EH(hF:F.plain=Fence.wide)(hT:bw P T)(hs:bR T n g0 w0 S g a w){ops:Array Oper}{apps:List Nat}{o:Oper}(cq:jo n o=true)(rv:qM o=true)(h:MH T (fA P T) (oR P T) ops.toList apps o S K)(hn:Rest T n g0 w0 K next){Q:Exit→Act→World→Prop} :
  (Region.wanted o (yielded ops a.tmps)=true→o.wpIn F 0 P a w next Q)∧(Region.wanted o (yielded ops a.tmps)=false→next (a.put o.dst undef) w):=by
 have hd:=x6 cq;have sN:aQ T (fA P T) ops.toList apps false o S K→(Region.wanted o (yielded ops a.tmps)=true→o.wpIn F 0 P a w next Q)∧(Region.wanted o (yielded ops a.tmps)=false→next (a.put o.dst undef) w):=fun h=>by
  obtain⟨k1,k2⟩:=pQ (Q:=Q) hT hs cq h hn;exact⟨fun e=>pW hF rv (k1 e),k2⟩
 have nX:o.guard=none→Region.wanted o (yielded ops a.tmps)=true:=fun hg=>by unfold Region.wanted;rw[hg]
 unfold MH at h;split at h
 ·rename_i s args tys ho;split at h
  ·rename_i l vs xs hg kC;refine⟨fun _=>?_,fun e=>by rw[nX hg]at e;cases e⟩;have dZ:args.size=tys.size:=by
    unfold jo at cq;rw[ho,Bool.and_eq_true]at cq;exact beq_true.1 cq.2
   obtain⟨e1,e2⟩:=uV hT hs bq.eN dZ;have hy:aA g w (.yl l vs xs) (a.eval (.tmp s)):=by
    have:=hs.bH s;rw[kC]at this;exact this
   exact EB hF hT hs ho hy (by simpa using e1) e2 h hd hn
  ·exact sN h
 ·rename_i f args tys ho;split at h
  ·rename_i hg;rcases h with h | h | h
   ·exact sN h
   rotate_left
   ·refine⟨fun _=>pW hF rv ?_,fun e=>by rw[nX hg]at e;cases e⟩;have dZ:args.size=tys.size:=by
     unfold jo at cq;rw[ho,Bool.and_eq_true]at cq;exact beq_true.1 cq.2
    obtain⟨e1,e2⟩:=XB hT hs dZ;exact sc hT hs h (xs:= #[]++args.map a.eval++ #[]) (fun cq=>tv ho (p:= #[]) (q:= #[]) rfl cq) (by simpa using e1) (by simpa using e2) hd hn
   ·refine⟨fun _=>pW hF rv ?_,fun e=>by rw[nX hg]at e;cases e⟩;have dZ:args.size=tys.size:=by
     unfold jo at cq;rw[ho,Bool.and_eq_true]at cq;exact beq_true.1 cq.2
    obtain⟨e1,e2⟩:=uV hT hs bq.eN dZ;exact GJ hT hs h (xs:= #[]++args.map a.eval++ #[]) (fun cq=>tv ho (p:= #[]) (q:= #[]) rfl cq) (by simpa using e1) (by simpa using e2) hd hn
  ·exact sN h
 ·rename_i t x _ ho;split at h
  ·rename_i hg;refine⟨fun _=>pW hF rv ?_,fun e=>by rw[nX hg]at e;cases e⟩;unfold Xz at h;split at h
   ·rename_i sz rows ht hr;obtain⟨A,m,c,hx,hA⟩:=GI (bN hT hs bq.eN t x) hr;refine cW (P2 hT ho ht hx) (gy (h A.isNone (fun hr=>?_)) hs hd (.p (.bool _)) hn);have:=hA hr;cases A with
    | none=>exact absurd rfl this
    | some a=>rfl
   ·exact h.elim
  ·exact h.elim
 ·rename_i t x ho;split at h
  ·rename_i l ty cs off sz rows hg ht;rcases h with h | h
   ·exact sN h
   ·exact⟨fun _=>pW hF rv (GN hT hs ho ht h hd hn),fun e=>by rw[nX hg]at e;cases e⟩
  ·exact sN h
 ·rename_i t parts ho;split at h
  ·rename_i hg _;exact⟨fun _=>pW hF rv (EG hT hs ho h hd hn),fun e=>by rw[nX hg]at e;cases e⟩
  ·exact sN h
 ·rename_i e x ho;split at h
  ·rename_i sz hg he;refine⟨fun _=>pW hF rv ?_,fun e=>by rw[nX hg]at e;cases e⟩;have hX:=bN hT hs bq.eN e x;rw[he]at hX;have hX:aA g w (.iA sz) (a.eval x):=hX;refine yx hT hs ho (cs:= [.iA sz]) ?_ h hd hn;have ex:a.eval x= .slice none 0 0:=by
    generalize a.eval x=z at hX;cases hX;rfl
   rw[ex];refine⟨rfl,fun j u y hu hy=>?_⟩;cases j with
   | zero=>
    have h1:some (AV.iA sz)=some u:=hu;have h2:some (Value.slice none 0 0)=some y:=hy;cases h1;cases h2;exact .iA sz
   | succ j=>simp at hu
  ·rename_i cs hg he;refine⟨fun _=>pW hF rv ?_,fun e=>by rw[nX hg]at e;cases e⟩;have hX:=bN hT hs bq.eN e x;rw[he]at hX;obtain⟨xs,ex,h1,h2⟩:=aA.w8 (show aA g w (.mix cs) (a.eval x)from hX);refine yx hT hs ho (cs:=cs) ?_ h hd hn;rw[ex];show AL g w cs xs.toList;exact⟨by simpa using h1,fun j u y hu hy=>h2 j u y hu (by rw[←Array.getElem?_toList];exact hy)⟩
  ·exact sN h
 ·rename_i t agh x ho;split at h
  ·rename_i e q1 q2 q3 q4 O9;split at h
   ·rename_i hg;refine⟨fun _=>pW hF rv ?_,fun e=>by rw[nX hg]at e;cases e⟩;unfold H5 at h;split at h
    ·rename_i e1 _ _ _ _ s FT Wd hx;rw[O9]at Wd;cases Wd;split at h
     ·rename_i he;have hX:=bN hT hs bq.eN t x;rw[hx]at hX;obtain⟨v,w',g',cn,gu,hv⟩:=ED hT hs ho FT O9 he (cK.nH (aA.eg hX));exact cW cn (gy h gu hd hv hn)
     ·exact h.elim
    ·exact h.elim
   ·rename_i j wt hg;split at h
    ·rename_i s kC;have W7:=x0 (tmps:=a.tmps) hg kC;split at h
     ·rename_i c hc;have pI:=vY hs 8 hc kC;unfold H5 at h;split at h
      ·rename_i e1 _ _ _ _ agb FT Wd hx;rw[O9]at Wd;cases Wd;split at h
       ·rename_i he;have h:bT (S.cA s) o.dst (.fS s wt (.p (.sl 1 (lZ agb)))) K:=h;refine⟨fun e=>pW hF rv ?_,fun e=>?_⟩
        ·have hw:=W7.1 e;have hX:=bN hT hs (pI hw) t x;rw[hx]at hX;obtain⟨v,w',g',cn,gu,hv⟩:=ED hT hs ho FT O9 he (cK.nH (aA.eg hX));exact cW cn (qB h gu hd ⟨fun _=>hv,fun e=>absurd hw e⟩ rfl hn)
        ·exact qB h hs hd ⟨fun agm=>(by rw[W7.2 agm]at e;cases e),fun _=>rfl⟩ rfl hn
       ·exact h.elim
      ·exact h.elim
     ·exact h.elim
    ·exact h.elim
  ·exact sN h
 ·exact sN h
end
inductive Zn where
 | no (fr:Bool)
 | ns (l:Loc)
 | rc (ls:List Loc)
 | nl
 | ra
def EI(S agj:St):List Loc→Prop
 | []=>True
 | l::r=>agj.bx l=S.bx l∧EI S agj r
def fC(T:TE)(J:uF)(ops:List Oper)(apps:List Nat)(p:Oper×Zn)(S:St)(K:St→Prop):Prop:=
 match p.2 with
 | .no fr=>aQ T J ops apps fr p.1 S K
 | .ns l=>fX T S (.S8 l) p.1=true∧aQ T J ops apps false p.1 S K
 | .rc ls=>match aY p.1 with
  | .call=>aQ T J ops apps false p.1 S fun agj=>EI S agj ls∧K agj
  | _=>False
 | .nl=>match aY p.1 with
  | .load=>S.aJ=false∧aQ T J ops apps false p.1 S fun agj=>agj.aJ=S.aJ∧K agj
  | _=>False
 | .ra=>match aY p.1 with
  | .call=>S.aJ=false∧aQ T J ops apps false p.1 S fun agj=>(∀l,agj.bx l=S.bx l)∧K agj
  | _=>False
def o8(p:Oper×Zn):BI:=match p.2,aY p.1 with
 | _,.fN=> .fN
 | .nl,_=> .store
 | .ra,_=> .store
 | _,c=>c
def Zs:Zn→Bool
 | .no fr=>fr
 | _=>false
def Ct(p q:Oper×Zn):Bool:=match o8 p with
 | .call=>(match o8 q with | .quiet=>true | _=>Zs p.2)
 | _=>true
def H7(ops:List Oper)(p q:Oper×Zn):Bool:=
 gQ (aM ops p.1) (aK q.1)&&gQ (aK p.1) (aM ops q.1)&&gQ (aK p.1) (aK q.1)&&
 (((o8 p).free (o8 q)&&Ct p q&&Ct q p)||match p.2,q.2 with
  | .ns l,.rc ls=>rb ls l
  | .rc ls,.ns l=>rb ls l
  | .nl,.ra=>true
  | .ra,.nl=>true
  | .nl,.nl=>true
  | _,_=>false)
def ni(ops:List (Oper×Zn))(os:List Oper)(bef:Nat)(q:Oper×Zn):List (Oper×Zn)→Nat→Bool
 | [],_=>true
 | a::r,j=>(Nat.testBit bef j||H7 os a q)&&ni ops os bef q r (j+1)
def pY(ops:List (Oper×Zn))(os:List Oper)(bef:List Nat):List (Oper×Zn)→Nat→Bool
 | [],_=>true
 | o::r,i=>ni ops os (bef.getD i 0) o (fe ops i) 0&&pY ops os bef r (i+1)
def o9:List Oper→List Zn→List (Oper×Zn)
 | [],_=> []
 | o::r,[]=>(o,.no false)::o9 r []
 | o::r,b::bs=>(o,b)::o9 r bs
def EJ(ops:List Oper)(zn:List Zn):Bool:=mu ops 0&&pY (o9 ops zn) ops (fa ops []) (o9 ops zn) 0
def GO(T:TE)(J:uF)(ops:List Oper)(apps:List Nat):List (Oper×Zn)→St→(St→Prop)→Prop
 | [],S,K=>K S
 | p::r,S,K=>fC T J ops apps p S fun S=>GO T J ops apps r S K
def XD(T:TE)(t:TypeId):Bool:=match T t with
 | some ⟨.ptr,_,_,_,_⟩=>true
 | _=>false
def MI(T:TE)(bef:List Nat)(ops:List Oper):List Oper→Nat→Bool
 | [],_=>false
 | o::r,i=>(match o.guard,o.op with
  | none,.call ⟨.value (.tmp _),_,_⟩=>gH bef i ops 0
  | _,.call ⟨.value (.func _),_,tys⟩=>tys.toList.any (XD T)&&gH bef i ops 0
  | _,_=>false)||MI T bef ops r (i+1)
def Cu(T:TE)(J:uF)(ops:List Oper)(S:St)(K:St→Prop):Prop:=
 match MI T (fa ops []) ops ops 0 with
 | true=>∃zn,EJ ops zn=true∧GO T J ops (eZ ops) (o9 ops zn) S (re ops (eZ ops) K)
 | false=>jk T J ops true S K
section
variable {S agj:St} {K agi:St→Prop} {T:TE} {J:uF} {ops:List Oper} {apps:List Nat}
theorem qN{ls:List Loc}(h:EI S agj ls){l:Loc}(hl:l∈ls):agj.bx l=S.bx l:=by
 induction ls with
 | nil=>simp at hl
 | cons a r ih=>
  rcases List.mem_cons.1 hl with rfl | hl
  ·exact h.1
  ·exact ih h.2 hl
theorem yy{ls:List Loc}(h:∀l∈ls,agj.bx l=S.bx l):EI S agj ls:=by
 induction ls with
 | nil=>trivial
 | cons a r ih=>exact⟨h a (by simp),ih (fun l hl=>h l (by simp[hl]))⟩
theorem yz{p:Oper×Zn}(hk:∀S,K S→agi S)(h:fC T J ops apps p S K):fC T J ops apps p S agi:=by
 obtain⟨o,z⟩:=p;cases z with
 | no fr=>exact bI hk h
 | ns l=>exact⟨h.1,bI hk h.2⟩
 | rc ls=>
  unfold fC at h ⊢;simp only at h ⊢;split at h
  ·rename_i hc;exact bI (fun S1 h1=>⟨h1.1,hk _ h1.2⟩) h
  ·exact h.elim
 | nl=>
  unfold fC at h ⊢;simp only at h ⊢;split at h
  ·rename_i hc;exact⟨h.1,bI (fun S1 h1=>⟨h1.1,hk _ h1.2⟩) h.2⟩
  ·exact h.elim
 | ra=>
  unfold fC at h ⊢;simp only at h ⊢;split at h
  ·rename_i hc;exact⟨h.1,bI (fun S1 h1=>⟨h1.1,hk _ h1.2⟩) h.2⟩
  ·exact h.elim
def Calm(F:St→(St→Prop)→Prop)(R W:List Nat)(S:St)(K:St→Prop)(n:Bool):Prop:=
 ∃δ:Dl,eQ δ R W∧(n=true→ ∀l,δ.pb l=none)∧(∀l,(δ.app S).bx l=S.bx l)∧δ.lb=false∧K (δ.app S)∧ ∀agj,dy S agj R W→agj.bx=S.bx→agj.aJ=S.aJ→ ∀agi:St→Prop,agi (δ.app agj)→F agj agi
theorem tQ{o:Oper}(h:fC T J ops apps (o,.nl) S K):Calm (fC T J ops apps (o,.nl)) (aM ops o) (aK o) S K true:=by
 unfold fC at h;simp only at h;split at h
 ·rename_i dP;have dP:aY o= .load:=dP;obtain⟨h0,h⟩:=h;obtain⟨δ,h1,h2,⟨h3,h4⟩,h5⟩:=fG (by rw[dP];simp) h;rw[dP]at h2 h5;have h2:∀l,δ.pb l=none:=h2
  have fE:δ.lb=false:=by
   have:(δ.lb||S.aJ)=S.aJ:=h3;rw[h0]at this;simpa using this
  refine⟨δ,h1,fun _=>h2,fun l=>nc (h2 l),fE,h4,fun agj hA e1 e2 K2 hk=>?_⟩;unfold fC;simp only[dP];refine⟨by rw[e2];exact h0,h5 agj hA (fun l b hb=>by rw[e1];exact hb) _ ⟨u9 fE,hk⟩⟩
 ·exact h.elim
theorem Cv{o:Oper}(h:fC T J ops apps (o,.ra) S K):Calm (fC T J ops apps (o,.ra)) (aM ops o) (aK o) S K false:=by
 unfold fC at h;simp only at h;split at h
 ·rename_i dP;have dP:aY o= .call:=dP;obtain⟨h0,h⟩:=h;obtain⟨δ,h1,h2,⟨h3,h4⟩,h5⟩:=fG (by rw[dP];simp) h;rw[dP]at h2 h5;have fE:δ.lb=false:=h2.2;refine⟨δ,h1,fun e=>(by cases e),h3,fE,h4,fun agj hA e1 e2 K2 hk=>?_⟩;unfold fC;simp only[dP];refine⟨by rw[e2];exact h0,h5 agj hA (fun _=>⟨e1,e2⟩) _ ⟨fun l=>?_,hk⟩⟩;have:=h3 l;show(match δ.pb l with | some b=>some b | none=>agj.bx l)=agj.bx l;rw[e1];exact this
 ·exact h.elim
theorem vi{F1 F2:St→(St→Prop)→Prop}{R1 W1 R2 W2:List Nat}{n1 n2:Bool}(hL1:∀S K,F1 S K→Calm F1 R1 W1 S K n1)(hL2:∀S K,F2 S K→Calm F2 R2 W2 S K n2)(hn:n1=true∨n2=true)
  (d1:gQ R1 W2=true) (d2:gQ W1 R2=true) (d3:gQ W1 W2=true) (h:F1 S fun S1=>F2 S1 K):F2 S fun S2=>F1 S2 K:=by
 obtain⟨iR,w1,b1,x1,l1,h,r1⟩:=hL1 _ _ h;obtain⟨ij,w2,b2,x2,l2,h,r2⟩:=hL2 _ _ h;have pg1:∀t,t∈R2∨t∈W2→iR.pg t=none:=fun t ht=>by
  rcases Option.eq_none_or_eq_some (iR.pg t)with e | ⟨v,e⟩
  ·exact e
  ·have hw:=w1.get t (by rw[e];simp);rcases ht with ht | ht
   ·exact(bQ d2 hw ht).elim
   ·exact(bQ d3 hw ht).elim
 have Xd:∀t,t∈R1∨t∈W1→ij.pg t=none:=fun t ht=>by
  rcases Option.eq_none_or_eq_some (ij.pg t)with e | ⟨v,e⟩
  ·exact e
  ·have hw:=w2.get t (by rw[e];simp);rcases ht with ht | ht
   ·exact(bQ d1 ht hw).elim
   ·exact(bQ d3 ht hw).elim
 have a2:dy (iR.app S) S R2 W2:=⟨fun t ht=>(nQ (pg1 t ht)).symm,fun t ht=>by
  show S.lock t=(iR.lk t||S.lock t);cases D4:iR.lk t with
  | false=>rfl
  | true=>exact(bQ d1 (w1.lock t D4) ht).elim⟩
 have a1:dy S (ij.app S) R1 W1:=⟨fun t ht=>nQ (Xd t ht),fun t ht=>by
  show(ij.lk t||S.lock t)=S.lock t;cases D4:ij.lk t with
  | false=>rfl
  | true=>exact(bQ d2 ht (w2.lock t D4)).elim⟩
 have hg:∀t,iR.pg t=none∨ij.pg t=none:=fun t=>by
  rcases Option.eq_none_or_eq_some (iR.pg t)with e | ⟨v,e⟩
  ·exact .inl e
  ·exact .inr (Xd t (.inr (w1.get t (by rw[e];simp))))
 have hb:∀l,iR.pb l=none∨ij.pb l=none:=fun l=>hn.elim (fun e=> .inl (b1 e l)) (fun e=> .inr (b2 e l))
 have e1:(iR.app S).bx=S.bx:=funext x1;have e3:(ij.app S).bx=S.bx:=by
  funext l;have this:(match ij.pb l with | some b=>some b | none=>(iR.app S).bx l)=(iR.app S).bx l:=x2 l;rw[e1]at this;exact this
 exact r2 S a2 e1.symm (u9 l1).symm _ (r1 (ij.app S) a1 e3 (u9 l2) _ (by rw[yd hg hb];exact h))
theorem AT{p:Oper×Zn}(Tf:o8 p≠ .fN)(h:fC T J ops apps p S K):gI (fC T J ops apps p) (aM ops p.1) (aK p.1) (o8 p) (Zs p.2) p.1.dst S K:=by
 obtain⟨o,z⟩:=p;have hc:aY o≠ .fN:=fun e=>Tf (by unfold o8;rw[e])
 have hy:(∀e,z=e→e≠ .nl∧e≠ .ra)→o8 (o,z)=aY o:=fun hz=>by
  unfold o8;cases z<;>cases aY o<;>first | rfl | exact absurd rfl (hz _ rfl).1 | exact absurd rfl (hz _ rfl).2
 have calm:∀ {n:Bool},o8 (o,z)= .store→Calm (fC T J ops apps (o,z)) (aM ops o) (aK o) S K n→gI (fC T J ops apps (o,z)) (aM ops o) (aK o) (o8 (o,z)) (Zs z) o.dst S K:=fun e hC=>by
  obtain⟨δ,w,b,x,lb,hk,r⟩:=hC;rw[e];exact⟨δ,w,lb,hk,fun agj hA hB agi b9=>r agj hA hB.1 hB.2 agi b9⟩
 cases z with
 | nl=>exact calm (by unfold o8;cases hx:aY o<;>first | rfl | exact absurd hx hc) (tQ h)
 | ra=>exact calm (by unfold o8;cases hx:aY o<;>first | rfl | exact absurd hx hc) (Cv h)
 | no fr=>rw[hy (fun e he=>by subst he;exact⟨by simp,by simp⟩)];exact fG hc h
 | ns l=>rw[hy (fun e he=>by subst he;exact⟨by simp,by simp⟩)];exact gI.an (fun t ht=>cx ht) h.1 (fG hc h.2)
 | rc ls=>
  rw[hy (fun e he=>by subst he;exact⟨by simp,by simp⟩)];unfold fC at h;simp only at h;split at h
  ·rename_i dP;have dP:aY o= .call:=dP;obtain⟨δ,h1,h2,⟨h3,h4⟩,h5⟩:=fG hc h;refine⟨δ,h1,h2,h4,fun agj hA hB K2 hk=>?_⟩;have aaT:HX (aY o) false o.dst S agj:=hB;have hb:agj.bx=S.bx∧agj.aJ=S.aJ:=by
    rw[dP]at aaT;exact aaT rfl
   unfold fC;simp only[dP];refine h5 agj hA aaT _ ⟨yy fun l hl=>?_,hk⟩;have:=qN h3 hl;show(match δ.pb l with | some b=>some b | none=>agj.bx l)=agj.bx l;rw[hb.1];exact this
  ·exact h.elim
theorem dx{δ:Dl}{d:Nat}{v:AV}(h:δ.pg d=none):δ.app (S.put d v)=(δ.app S).put d v:=by
 refine St.ext' (fun t=>?_) (fun _=>rfl) (fun _=>rfl) rfl;show(match δ.pg t with | some v=>v | none=>bif Nat.beq d t then v else S.get t)=bif Nat.beq d t then v else(match δ.pg t with | some v=>v | none=>S.get t);cases hb:Nat.beq d t with
 | true=>
  have:=beq_true.1 hb;subst this;rw[h]
 | false=>rfl
theorem yA{d:Option Nat}{v:AV}(h:bT S d v K):∃S1:St,K S1∧S1.bx=S.bx∧S1.aJ=S.aJ∧S1.lock=S.lock∧(∀t,d≠some t→S1.get t=S.get t)∧(S1=S∧d=none∨ ∃e,d=some e∧S.lock e=false∧S1=S.put e v):=by
 cases d with
 | none=>exact⟨S,h,rfl,rfl,rfl,fun _ _=>rfl,.inl ⟨rfl,rfl⟩⟩
 | some e=>
  obtain⟨hl,hk⟩:=bP h;refine⟨S.put e v,hk,rfl,rfl,rfl,fun t ht=>?_,.inr ⟨e,rfl,hl,rfl⟩⟩;show(bif Nat.beq e t then v else S.get t)=S.get t;cases hb:Nat.beq e t with
  | true=>exact absurd (congrArg some (beq_true.1 hb)) ht
  | false=>rfl
theorem Ki{d:Option Nat}{v:AV}{S1:St}{δ:Dl}(h1:S1=S∧d=none∨ ∃e,d=some e∧S.lock e=false∧S1=S.put e v)(hpg:∀e,d=some e→δ.pg e=none)(D4:∀e,d=some e→δ.lk e=false)(hk:K (δ.app S1)):bT (δ.app S) d v K:=by
 rcases h1 with⟨rfl,rfl⟩ | ⟨e,rfl,hl,rfl⟩
 ·exact hk
 ·show(bif(δ.app S).lock e then False else K ((δ.app S).put e v));have:(δ.app S).lock e=false:=by
   show(δ.lk e||S.lock e)=false;rw[D4 e rfl,hl];rfl
  rw[this];show K ((δ.app S).put e v);rw[←dx (hpg e rfl)];exact hk
theorem MJ{o1 o2:Oper}{l:Loc}{ls:List Loc}(hm:rb ls l=true)(d1:gQ (aM ops o1) (aK o2)=true)(d2:gQ (aK o1) (aM ops o2)=true)(d3:gQ (aK o1) (aK o2)=true):Sw (fC T J ops apps) (o1,.ns l) (o2,.rc ls):=by
 intro S K h;have hm:=je.1 hm;obtain⟨ha,h⟩:=h;obtain⟨tr,u,⟨PS,PT⟩,Cj,j3,h,r1⟩:=nT ha h;obtain⟨S1,h,e1,e2,e3,e4,oQ⟩:=yA h;unfold fC at h ⊢;simp only at h ⊢;cases hc:aY o2<;>rw[hc]at h<;>try exact h.elim
 have r7:aY o2≠ .fN:=by rw[hc];simp
 obtain⟨δ,w2,b2,⟨AB,hk⟩,r2⟩:=fG r7 h;have XE:∀t,t∈aM ops o1∨t∈aK o1→δ.pg t=none:=fun t ht=>by
  rcases Option.eq_none_or_eq_some (δ.pg t)with e | ⟨v,e⟩
  ·exact e
  ·have hw:=w2.get t (by rw[e];simp);rcases ht with ht | ht
   ·exact(bQ d1 ht hw).elim
   ·exact(bQ d3 ht hw).elim
 have ri:∀l0,(δ.app S).bx l0=(δ.app S1).bx l0:=fun l0=>by
  show(match δ.pb l0 with | some b=>some b | none=>S.bx l0)=match δ.pb l0 with | some b=>some b | none=>S1.bx l0
  rw[e1]
 have xf:∀l0∈ls,(δ.app S).bx l0=S.bx l0:=fun l0 hl=>by rw[ri,qN AB hl,e1]
 have T1:∀t,t∈aM ops o2∨t∈aK o2→o1.dst≠some t:=fun t ht e=>by
  have:=bX t e;rcases ht with ht | ht
  ·exact bQ d2 this ht
  ·exact bQ d3 this ht
 refine r2 S ⟨fun t ht=>(e4 t (T1 t ht)).symm,fun t _=>by rw[e3]⟩ ?_ _ ⟨yy xf,?_⟩
 ·rw[hc];exact fun _=>⟨e1.symm,e2.symm⟩
 ·have hg:∀t,t∈tmpsOf o1.op.operands.toList→(δ.app S).get t=S.get t:=fun t ht=>nQ (XE t (.inl (cx ht)))
  refine⟨by rw[ik hg];exact ha,r1 _ K (hg tr PS) (fun l0 e0=>?_) ?_⟩
  ·cases e0;exact xf l hm
  ·exact Ki oQ (fun e he=>XE e (.inr (bX e he))) (fun e he=>by
    cases hl:δ.lk e with
    | false=>rfl
    | true=>exact(bQ d2 (bX e he) (w2.lock e hl)).elim) hk
theorem MK{o1 o2:Oper}{l:Loc}{ls:List Loc}(hm:rb ls l=true)(d1:gQ (aM ops o1) (aK o2)=true)(d2:gQ (aK o1) (aM ops o2)=true)(d3:gQ (aK o1) (aK o2)=true):Sw (fC T J ops apps) (o2,.rc ls) (o1,.ns l):=by
 intro S K h;have hm:=je.1 hm;unfold fC at h ⊢;simp only at h ⊢;cases hc:aY o2<;>rw[hc]at h<;>try exact h.elim
 have r7:aY o2≠ .fN:=by rw[hc];simp
 obtain⟨δ,w2,b2,⟨AB,ha,oO⟩,r2⟩:=fG r7 h;obtain⟨tr,u,⟨PS,PT⟩,Cj,j3,jI,r1⟩:=nT ha oO;have XE:∀t,t∈aM ops o1∨t∈aK o1→δ.pg t=none:=fun t ht=>by
  rcases Option.eq_none_or_eq_some (δ.pg t)with e | ⟨v,e⟩
  ·exact e
  ·have hw:=w2.get t (by rw[e];simp);rcases ht with ht | ht
   ·exact(bQ d1 ht hw).elim
   ·exact(bQ d3 ht hw).elim
 have hg:∀t,t∈tmpsOf o1.op.operands.toList→(δ.app S).get t=S.get t:=fun t ht=>nQ (XE t (.inl (cx ht)))
 obtain⟨S1,hk,e1,e2,e3,e4,oQ⟩:=yA jI;have T1:∀t,t∈aM ops o2∨t∈aK o2→o1.dst≠some t:=fun t ht e=>by
  have:=bX t e;rcases ht with ht | ht
  ·exact bQ d2 this ht
  ·exact bQ d3 this ht
 refine⟨by rw[←ik hg];exact ha,r1 S _ (hg tr PS).symm (fun l0 e0=>?_) ?_⟩
 ·cases e0;exact(qN AB hm).symm
 ·have fin:∀S2:St,S2.bx=S.bx→S2.aJ=S.aJ→S2.lock=S.lock→(∀t,o1.dst≠some t→S2.get t=S.get t)→δ.app S2=S1→aQ T J ops apps false o2 S2 fun agj=>EI S2 agj ls∧K agj:=fun S2 f1 f2 f3 f4 f5=>by
   refine r2 S2 ⟨fun t ht=>f4 t (T1 t ht),fun t _=>by rw[f3]⟩ (by rw[hc];exact fun _=>⟨f1,f2⟩) _ ⟨yy fun l0 hl=>?_,by rw[f5];exact hk⟩;have:=qN AB hl;show(match δ.pb l0 with | some b=>some b | none=>S2.bx l0)=S2.bx l0;rw[f1];exact this
  rcases oQ with⟨q1,q2⟩ | ⟨e,q1,q2,q3⟩
  ·rw[q2];exact fin S rfl rfl rfl (fun _ _=>rfl) q1.symm
  ·rw[q1];have hl:S.lock e=false:=by
    have:(δ.lk e||S.lock e)=false:=q2;rw[Bool.or_eq_false_iff]at this;exact this.2
   show(bif S.lock e then False else _);rw[hl];refine fin (S.put e u) rfl rfl rfl (fun t ht=>?_) ?_
   ·show(bif Nat.beq e t then u else S.get t)=S.get t;cases hb:Nat.beq e t with
    | true=>exact absurd (q1.trans (congrArg some (beq_true.1 hb))) ht
    | false=>rfl
   ·rw[dx (XE e (.inr (bX e q1))),q3]
theorem AU{p q:Oper×Zn}(h:Ct p q=true)(hc:o8 p= .call)(hq:o8 q≠ .quiet):Zs p.2=true:=by
 unfold Ct at h;rw[hc]at h;simp only at h
 first
 | exact h
 | (
  split at h
  ·rename_i e;exact absurd e hq
  ·exact h)
theorem ML{p q:Oper×Zn}(hf:H7 ops p q=true):Sw (fC T J ops apps) p q:=by
 obtain⟨o1,z1⟩:=p;obtain⟨o2,z2⟩:=q;unfold H7 at hf;simp only[Bool.and_eq_true,Bool.or_eq_true]at hf;obtain⟨⟨⟨d1,d2⟩,d3⟩,hf⟩:=hf;rcases hf with⟨⟨dW,c1⟩,c2⟩ | hf
 ·have si:o8 (o1,z1)≠ .fN:=fun e=>by rw[e]at dW;cases dW
  have mj:o8 (o2,z2)≠ .fN:=fun e=>by
   rw[e]at dW;cases hc:o8 (o1,z1)<;>rw[hc]at dW<;>cases dW
  intro S K h;exact Mg (fun _ _ h=>AT (p:=(o1,z1)) si h) (fun _ _ h=>AT (p:=(o2,z2)) mj h) bX bX dW d1 d2 d3 (fun e1 e2=>AU c1 e1 e2) (fun e1 e2=>AU c2 e1 e2) h
 ·have T2:∀ {a b:List Nat},gQ a b=true→gQ b a=true:=fun {a b} h=>List.all_eq_true.2 fun t ht=>by
   cases hm:wQ a t with
   | false=>rfl
   | true=>exact(bQ h (yc.1 hm) ht).elim
  cases z1<;>cases z2<;>simp only at hf<;>try (cases hf;done)
  ·exact MJ hf d1 d2 d3
  ·exact MK hf (T2 d2) (T2 d1) (T2 d3)
  ·intro S K h;exact vi (fun _ _ h=>tQ h) (fun _ _ h=>tQ h) (.inl rfl) d1 d2 d3 h
  ·intro S K h;exact vi (fun _ _ h=>tQ h) (fun _ _ h=>Cv h) (.inl rfl) d1 d2 d3 h
  ·intro S K h;exact vi (fun _ _ h=>Cv h) (fun _ _ h=>tQ h) (.inr rfl) d1 d2 d3 h
theorem yB:∀(l:List Oper) (an:List Zn) (i:Nat) (o:Oper),l[i]? =some o→ ∃b,(o9 l an)[i]? =some (o,b)
 | [],_,i,o,h=>by simp at h
 | a::r,[],0,o,h=>by simp at h;subst h;exact⟨_,rfl⟩
 | a::r,b::bs,0,o,h=>by simp at h;subst h;exact⟨_,rfl⟩
 | a::r,[],i+1,o,h=>by
  obtain⟨b,hb⟩:=yB r [] i o (by simpa using h);exact⟨b,by simpa [o9]using hb⟩
 | a::r,b::bs,i+1,o,h=>by
  obtain⟨c,hc⟩:=yB r bs i o (by simpa using h);exact⟨c,by simpa [o9]using hc⟩
theorem pZ:∀(l:List Oper) (an:List Zn),(o9 l an).length=l.length
 | [],an=>by cases an<;>rfl
 | _::r,[]=>by simp[o9,pZ r []]
 | _::r,b::bs=>by simp[o9,pZ r bs]
theorem tR{os:List Oper}{L:List (Oper×Zn)}{bef:Nat}{q:Oper×Zn} :∀(l:List (Oper×Zn)) (j k:Nat) (p:Oper×Zn),ni L os bef q l j=true→l[k]? =some p→Nat.testBit bef (j+k)=true∨H7 os p q=true
 | [],_,k,p,_,h=>by simp at h
 | a::r,j,0,p,h,hp=>by
  simp only[List.getElem?_cons_zero,Option.some.injEq]at hp;subst hp;simp only[ni,Bool.and_eq_true,Bool.or_eq_true]at h;exact h.1
 | a::r,j,k+1,p,h,hp=>by
  simp only[ni,Bool.and_eq_true]at h;have:=tR r (j+1) k p h.2 (by simpa using hp);rw[show j+(k+1)=j+1+k by omega];exact this
theorem tS{os:List Oper}{L:List (Oper×Zn)}{bef:List Nat} :∀(l:List (Oper×Zn)) (i k:Nat) (o:Oper×Zn),pY L os bef l i=true→l[k]? =some o→ni L os (bef.getD (i+k) 0) o (fe L (i+k)) 0=true
 | [],_,k,o,_,h=>by simp at h
 | a::r,i,0,o,h,ho=>by
  simp only[List.getElem?_cons_zero,Option.some.injEq]at ho;subst ho;simp only[pY,Bool.and_eq_true]at h;exact h.1
 | a::r,i,k+1,o,h,ho=>by
  simp only[pY,Bool.and_eq_true]at h;have:=tS r (i+1) k o h.2 (by simpa using ho);rw[show i+(k+1)=i+1+k by omega];exact this
theorem MM{l:List (Oper×Zn)} :∀ {S:St},GO T J ops apps l S K→kS (fC T J ops apps) l S K:=by
 induction l with
 | nil=>intro S h;exact h
 | cons p r ih=>
  intro S h;exact yz (fun S1 h1=>ih h1) h
end
def SF(S:St):List Loc→List er→Prop
 | l::ls,b::bs=>S.bx l=some b∧SF S ls bs
 | _,_=>True
theorem XF{S:St} :∀ {ls:List Loc} {bs:List er} (S1:St),S1.bx=S.bx→SF S ls bs→ ∀m,(fW S1 ls bs).bx m=S.bx m:=by
 intro ls;induction ls with
 | nil=>intro bs S1 e _ m;rw[←e];cases bs<;>rfl
 | cons l r ih=>
  intro bs S1 e h m;cases bs with
  | nil=>rw[←e];rfl
  | cons b bs=>
   refine ih (S1.bK l b) ?_ h.2 m;funext k;show(bif Loc.mI l k then some b else S1.bx k)=S.bx k;cases hb:Loc.mI l k with
   | true=>
    have:=Loc.fJ.1 hb;subst this;exact h.1.symm
   | false=>rw[←e];rfl
section
variable {P:Program} {T:TE} {n:Nat} {g0 g g':G} {w0 w w':World} {S:St} {a:Act} {K:St→Prop}
theorem T3(hT:bw P T){ops:Array Oper}(cq:gU n ops.toList=true){Q:Exit→Act→World→Prop}(hs:bR T n g0 w0 S g a w)(h:Cu T (fA P T) ops.toList S K)(hn:Rest T n g0 w0 K (Q .normal)):
  wpAny P .any ops Q ops.size (Array.replicate ops.size false) a {w with drawn:=w.drawn+1} :=by
 have hl:∀ {i:Nat} {o:Oper},ops[i]? =some o→ops.toList[i]? =some o:=fun h=>by rw[Array.getElem?_toList];exact h
 unfold Cu at h;split at h
 ·obtain⟨zn,zT,h⟩:=h;unfold EJ at zT;simp only[Bool.and_eq_true]at zT;obtain⟨sk,yg⟩:=zT;have Ck:=Ord.of sk;have inst:Inhabited (Oper×Zn):=⟨(default,.no false)⟩;have hlen:(o9 ops.toList zn).length=ops.size:=by rw[pZ];simp
  have yh:∀(i:Nat) o,ops[i]? =some o→ ∃b,(o9 ops.toList zn)[i]? =some (o,b):=fun i o ho=>yB _ _ i o (hl ho)
  refine yf hT cq hs (apps:=eZ ops.toList) Ck (L:=o9 ops.toList zn) (F:=fC T (fA P T) ops.toList (eZ ops.toList)) hlen ?_ ?_ (MM h) hn
  ·intro i o ho S K hk;obtain⟨b,hb⟩:=yh i o ho;have e:(o9 ops.toList zn).getD i default=(o,b):=by rw[List.getD_eq_getElem?_getD,hb];rfl
   rw[e]at hk;cases b with
   | no fr=>exact⟨fr,hk⟩
   | ns l=>exact⟨false,hk.2⟩
   | rc ls=>
    unfold fC at hk;simp only at hk;split at hk
    ·exact⟨false,bI (fun _ h=>h.2) hk⟩
    ·exact hk.elim
   | nl=>
    unfold fC at hk;simp only at hk;split at hk
    ·exact⟨false,bI (fun _ h=>h.2) hk.2⟩
    ·exact hk.elim
   | ra=>
    unfold fC at hk;simp only at hk;split at hk
    ·exact⟨false,bI (fun _ h=>h.2) hk.2⟩
    ·exact hk.elim
  ·intro i j Gp hi hb;have Sy:ops[i]? =some ops[i]:=Array.getElem?_eq_getElem hi;have Pf:ops[j]? =some ops[j]:=Array.getElem?_eq_getElem (by omega);obtain⟨bi,Xj⟩:=yh i _ Sy;obtain⟨bj,SB⟩:=yh j _ Pf;have Sz:=tS (o9 ops.toList zn) 0 i _ yg Xj;rw[Nat.zero_add,gf]at Sz;have SA:=tR _ 0 j _ Sz (by rw[List.getElem?_take_of_lt Gp];exact SB);rw[Nat.zero_add]at SA;have dW:=SA.resolve_left (by rw[hb];simp);have ej:(o9 ops.toList zn).getD j default=(ops[j],bj):=by rw[List.getD_eq_getElem?_getD,SB];rfl
   have ei:(o9 ops.toList zn).getD i default=(ops[i],bi):=by rw[List.getD_eq_getElem?_getD,Xj];rfl
   rw[ej,ei];exact⟨ML dW,fun S K agi hk h=>yz hk h⟩
 ·exact Eo hT cq hs h hn
end
end Go.Hm
