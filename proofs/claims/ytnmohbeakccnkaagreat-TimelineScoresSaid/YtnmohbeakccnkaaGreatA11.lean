/- Part 11 of the proof: an abstract machine for the program, its soundness, contracts of functions, and the plain law; no conditions. -/
import Derived.Test.YtnmohbeakccnkaaGreatA10
set_option linter.all false
set_option maxRecDepth 8000
namespace Go.Hm
theorem Bu(p q:cP)(k:bV):∀h:List (cP×bV),dM (Ac h p k) q=if q=p then some k else dM h q
 | []=>rfl
 | e::r=>by
  unfold Ac;by_cases h1:p=e.1
  ·rw[if_pos h1];show(if q=p then some k else dM r q)=_;by_cases h2:q=p
   ·rw[if_pos h2,if_pos h2]
   ·rw[if_neg h2,if_neg h2];rw[show dM (e::r) q=if q=e.1 then some e.2 else dM r q from rfl,if_neg (fun e=>h2 (e.trans h1.symm))]
  ·rw[if_neg h1];show(if q=e.1 then some e.2 else dM (Ac r p k) q)=_;rw[Bu p q k r];by_cases h2:q=e.1
   ·rw[if_pos h2,if_neg (fun e2=>h1 (e2.symm.trans h2))];rw[show dM (e::r) q=if q=e.1 then some e.2 else dM r q from rfl,if_pos h2]
   ·rw[if_neg h2];show _=if q=p then some k else(if q=e.1 then some e.2 else dM r q)
    rw[if_neg h2]
def oz(h:List (cP×bV)):List (cP×bV)→List (cP×bV)
 | []=>h
 | e::r=>oz (Ac h e.1 e.2) r
theorem zt{q:cP} :∀ {l:List (cP×bV)},q∉l.map Prod.fst→dM l q=none
 | [],h=>rfl
 | e::r,h=>by
  rw[List.map_cons,List.mem_cons,not_or]at h;show(if q=e.1 then some e.2 else dM r q)=none;rw[if_neg h.1];exact zt h.2
theorem uy:∀(l h:List (cP×bV)) (q:cP),(l.map Prod.fst).Pairwise (· ≠ ·)→dM (oz h l) q=(dM l q).or (dM h q)
 | [],h,q,hp=>rfl
 | e::r,h,q,hp=>by
  rw[List.map_cons,List.pairwise_cons]at hp;show dM (oz (Ac h e.1 e.2) r) q=((if q=e.1 then some e.2 else dM r q)).or (dM h q);rw[uy r _ q hp.2,Bu];by_cases hq:q=e.1
  ·rw[if_pos hq,if_pos hq,zt (fun hm=>hp.1 _ hm hq.symm)];all_goals rfl
  ·rw[if_neg hq,if_neg hq]
theorem lC(q:cP):∀(a b:List (cP×bV)),dM (a++b) q=(dM a q).or (dM b q)
 | [],b=>by
  show dM b q=(none:Option bV).or (dM b q);cases dM b q<;>rfl
 | e::r,b=>by
  show(if q=e.1 then some e.2 else dM (r++b) q)=((if q=e.1 then some e.2 else dM r q)).or (dM b q);rw[lC q r b];split<;>rfl
theorem rK:∀(a b h:List (cP×bV)),oz h (a++b)=oz (oz h a) b
 | [],b,h=>rfl
 | e::r,b,h=>rK r b _
def zu(i c v:Nat):List aD→List Int→List (cP×bV)
 | e::es,o::os=>(e.ID,⟨i,o,c,v⟩)::zu i c v es os
 | _,_=> []
def Dy(len:Int)(i c:Nat):Nat→List ax→List (cP×bV)
 | _,[]=> []
 | v,x::r=>zu i c v x.ak (cm x len).1++Dy len i c (v+1) r
def Dz(len:Int)(i:Nat):Nat→List aI→List (cP×bV)
 | _,[]=> []
 | c,x::r=>Dy len i c 0 x.ai++Dz len i (c+1) r
def Fv:Nat→List aj→List (cP×bV)
 | _,[]=> []
 | i,m::r=>Dz m.len i 0 m.Cells++Fv (i+1) r
theorem zw(id:cP)(i c v:Nat):∀(es:List aD) (os:List Int),jV id i c v es os=dM (zu i c v es os) id
 | [],os=>by cases os<;>rfl
 | e::es,[]=>rfl
 | e::es,o::os=>by
  show(if e.ID=id then some _ else jV id i c v es os)=(if id=e.ID then some _ else dM (zu i c v es os) id);rw[zw id i c v es os];by_cases h:e.ID=id
  ·rw[if_pos h,if_pos h.symm]
  ·rw[if_neg h,if_neg (fun e=>h e.symm)]
theorem zx(id:cP)(len:Int)(i c:Nat):∀(vs:List ax) (v:Nat),jW id len i c v vs=dM (Dy len i c v vs) id
 | [],v=>rfl
 | x::r,v=>by
  show(jV id i c v x.ak (cm x len).1).or (jW id len i c (v+1) r)=dM (_++_) id;rw[zw,zx id len i c r,lC]
theorem zy(id:cP)(len:Int)(i:Nat):∀(cs:List aI) (c:Nat),mb id len i c cs=dM (Dz len i c cs) id
 | [],v=>rfl
 | x::r,v=>by
  show(jW id len i v 0 x.ai).or (mb id len i (v+1) r)=dM (_++_) id;rw[zx,zy id len i r,lC]
theorem zz(id:cP):∀(ms:List aj) (i:Nat),vD id i ms=dM (Fv i ms) id
 | [],v=>rfl
 | x::r,v=>by
  show(mb id x.len v 0 x.Cells).or (vD id (v+1) r)=dM (_++_) id;rw[zy,zz id r,lC]
theorem Bv(i c v:Nat):∀(es:List aD) (os:List Int) (n:Nat),((zu i c v es os).map Prod.fst).Sublist ((z8 i c v n es).map eY.id)
 | [],os,n=>by cases os<;>exact List.Sublist.refl _
 | e::es,[],n=>List.nil_sublist _
 | e::es,o::os,n=>List.Sublist.cons_cons _ (Bv i c v es os (n+1))
theorem Bw(len:Int)(i c:Nat):∀(vs:List ax) (v:Nat),((Dy len i c v vs).map Prod.fst).Sublist ((xv i c v vs).map eY.id)
 | [],v=>List.Sublist.refl _
 | x::r,v=>by
  show((zu i c v x.ak (cm x len).1++Dy len i c (v+1) r).map Prod.fst).Sublist ((z8 i c v 0 x.ak++xv i c (v+1) r).map eY.id);rw[List.map_append,List.map_append];exact List.Sublist.append (Bv i c v _ _ 0) (Bw len i c r (v+1))
theorem By(len:Int)(i:Nat):∀(cs:List aI) (c:Nat),((Dz len i c cs).map Prod.fst).Sublist ((zJ i c cs).map eY.id)
 | [],v=>List.Sublist.refl _
 | x::r,v=>by
  show((Dy len i v 0 x.ai++Dz len i (v+1) r).map Prod.fst).Sublist ((xv i v 0 x.ai++zJ i (v+1) r).map eY.id);rw[List.map_append,List.map_append];exact List.Sublist.append (Bw len i v _ 0) (By len i r (v+1))
theorem Bz:∀(ms:List aj) (i:Nat),((Fv i ms).map Prod.fst).Sublist ((uD i ms).map eY.id)
 | [],v=>List.Sublist.refl _
 | x::r,v=>by
  show((Dz x.len v 0 x.Cells++Fv (v+1) r).map Prod.fst).Sublist (_::(zJ v 0 x.Cells++uD (v+1) r).map eY.id);rw[List.map_append,List.map_append];exact List.Sublist.cons _ (List.Sublist.append (By x.len v _ 0) (Bz r (v+1)))
theorem nw.keys{s:ae}(h:nw s):((Fv 0 s.aa).map Prod.fst).Pairwise (· ≠ ·):=by
 refine List.Pairwise.sublist ?_ h.r2;refine(Bz s.aa 0).trans ?_;unfold ae.ids bZ;rw[List.map_append,List.map_append];exact(List.sublist_append_left _ _).trans (List.sublist_append_right _ _)
def zA(i:Nat)(m:aj)(x:cY):cP×bV:=((vI m x).ID,⟨i,x.On,x.bA,x.cj⟩)
theorem BA(i:Nat)(m:aj):∀(l:List cY) (h:List (cP×bV)),wI i m l h=oz h (l.map (zA i m))
 | [],h=>rfl
 | x::r,h=>BA i m r _
theorem R5{v:ax}{n:Int}{ls:List Int}(h:Hy v n ls)(i c j:Nat)(m:aj)(hc:(m.Cells.getD c default).ai.getD j default=v):
  ((List.range v.ak.length).map (gT c j ls)).map (zA i m)=zu i c j v.ak (ml 0 ls):=by
 have key:∀(es:List aD) (os:List Int) (k:Nat),es.length=os.length→(∀a,a<es.length→(zu i c j es os)[a]? =some ((es.getD a default).ID,⟨i,os.getD a default,c,j⟩)):=by
  intro es;induction es with
  | nil=>intro os k hl a ha;simp at ha
  | cons e es ih=>
   intro os k hl a ha;cases os with
   | nil=>simp at hl
   | cons o os=>
    cases a with
    | zero=>rfl
    | succ a=>exact ih os k (by simpa using hl) a (by simpa using ha)
 have abV:∀(es:List aD) (os:List Int),es.length=os.length→(zu i c j es os).length=es.length:=by
  intro es;induction es with
  | nil=>intro os hl;cases os<;>rfl
  | cons e es ih=>
   intro os hl;cases os with
   | nil=>simp at hl
   | cons o os=>simp[zu,ih os (by simpa using hl)]
 have hl:v.ak.length=(ml 0 ls).length:=by rw[l7,h.len]
 apply List.ext_getElem?;intro a;by_cases ha:a<v.ak.length
 ·rw[key _ _ 0 hl a ha,List.getElem?_map,List.getElem?_map,List.getElem?_range ha];show some _=some _;congr 1;unfold zA gT vI;simp only[Int.toNat_natCast];rw[hc,h.on a (by rw[h.len];exact ha)]
 ·rw[List.getElem?_eq_none (by simp;omega),List.getElem?_eq_none (by rw[abV _ _ hl];omega)]
theorem Jv{len:Int}(i c:Nat)(m:aj):∀(vs:List ax) (j:Nat),(∀a,a<vs.length→(m.Cells.getD c default).ai.getD (j+a) default=vs.getD a default)→(∀v∈vs,(bu v len).2=0)→
  (j9 len c j vs).map (zA i m)=Dy len i c j vs
 | [],j,hg,h=>rfl
 | v::r,j,hg,h=>by
  have hv:=ju (h v (by simp));have e:=R5 hv i c j m (hg 0 (by simp));show(cL len c j 0 (cm v len).1++j9 len c (j+1) r).map (zA i m)=zu i c j v.ak (cm v len).1++Dy len i c (j+1) r;rw[List.map_append,jY hv,e,Jv i c m r (j+1) (fun a ha=>by
   have:=hg (a+1) (by simpa using ha);rw[show j+1+a=j+(a+1)by omega];exact this) (fun x hx=>h x (by simp[hx])),hv.iy]
theorem Jw{len:Int}(i:Nat)(m:aj):∀(cs:List aI) (c:Nat),(∀a,a<cs.length→m.Cells.getD (c+a) default=cs.getD a default)→(∀c∈cs,∀v∈c.ai,(bu v len).2=0)→
  (kP len c cs).map (zA i m)=Dz len i c cs
 | [],c,hg,h=>rfl
 | x::r,c,hg,h=>by
  have e:=Jv (len:=len) i c m x.ai 0 (fun a ha=>by
   have:=hg 0 (by simp);rw[Nat.add_zero]at this;rw[this,Nat.zero_add];rfl) (h x (by simp))
  show(j9 len c 0 x.ai++kP len (c+1) r).map (zA i m)=Dy len i c 0 x.ai++Dz len i (c+1) r;rw[List.map_append,e,Jw i m r (c+1) (fun a ha=>by
   have:=hg (a+1) (by simpa using ha);rw[show c+1+a=c+(a+1)by omega];exact this) (fun y hy=>h y (by simp[hy]))]
theorem BB{s:ae}(h:nw s):∀(ms:List aj) (i:Nat) (g:List (cP×bV)),(∀m∈ms,m∈s.aa)→zj i ms g=oz g (Fv i ms)
 | [],i,g,hm=>rfl
 | m::r,i,g,hm=>by
  have wW:=hm m (by simp);show zj (i+1) r (wI i m (cJ m).1 g)=oz g (Dz m.len i 0 m.Cells++Fv (i+1) r);rw[rK,BA,h.bH m wW];rw[show((kP m.len 0 m.Cells,(0:Int)).1)=kP m.len 0 m.Cells from rfl,Jw i m m.Cells 0 (fun a _=>by rw[Nat.zero_add]) (h.dI m wW)];exact BB h r (i+1) _ (fun y hy=>hm y (by simp[hy]))
theorem nw.find{s:ae}(h:nw s)(id:cP):dM s.sH id=s.find id:=by
 unfold ae.sH ae.find;rw[BB h s.aa 0 [] (fun _ hm=>hm),uy _ _ _ h.keys,zz];cases dM (Fv 0 s.aa) id<;>rfl
theorem nw.Y3{s:ae}(h:nw s):lB s.sH s.au=s.kq s.au:=by
 unfold lB ae.kq;refine List.map_congr_left (fun x _=>?_);unfold sI Bc;rw[h.find,h.find];all_goals rfl
structure VX where
 on:Int
 off:Int
 id:cP
 eF:List aS
 deriving Inhabited
def iW(p:aH):List aS→Bool
 | []=>false
 | h::r=>if h.aB=p then true else iW p r
def zB:List aS→Prop
 | []=>True
 | h::r=>iW h.aB r=false∧zB r
theorem zC{p:aH} :∀ {l:List aS},bh p l=true→iW p l=true
 | [],h=>by cases h
 | x::r,h=>by
  unfold bh at h;unfold iW;by_cases e:x.aB=p
  ·rw[if_pos e]
  ·rw[if_neg e];rw[if_neg (fun k=>e k.2)]at h;exact zC h
abbrev rm:=List (Option VX)
def k9(p:aH):rm→Int→Int
 | [],d=>d
 | none::_,d=>d
 | some e::r,d=>if iW p e.eF=true then(if bh p e.eF=true then k9 p r e.off else e.off)else d
def SU(first:aq)(down:Int)(e:VX)(i:Nat)(h:aS)(r:rm):aq:=
 cC (dY first down e.on e.id h.aB i) (if h.dQ=true then k9 h.aB r e.off else e.off)
def KU(first:aq)(down:Int)(D:aH→Bool)(e:VX)(r:rm):Nat→List aS→List aq
 | _,[]=> []
 | i,h::t=>(if D h.aB=true then []else [SU first down e i h r])++KU first down D e r (i+1) t
def nx(first:aq)(down:Int):(aH→Bool)→rm→List aq
 | _,[]=> []
 | _,none::r=>nx first down (fun _=>false) r
 | D,some e::r=>KU first down D e r 0 e.eF++nx first down (fun p=>bh p e.eF) r
def tr(first:aq)(down:Int):rm→List (aH×Nat)×List aq→List (aH×Nat)×List aq
 | [],s=>s
 | none::r,s=>tr first down r ([],s.2)
 | some e::r,s=>tr first down r (kp ⟨first,down,e.id,e.on,e.off,s.1⟩ 0 e.eF ([],s.2))
inductive gM where
 | no
 | sN (p:aH)
 | now (p:aH)
def DA(e:VX)(rem:List aS)(r:rm):aq×gM→aq
 | (n,.no)=>n
 | (n,.now p)=>cC n (k9 p r n.zH)
 | (n,.sN p)=>if iW p rem=true then(if bh p rem=true then cC n (k9 p r e.off)else cC n e.off)else n
def fin(r:rm):aq×Option aH→aq
 | (n,none)=>n
 | (n,some p)=>cC n (k9 p r n.zH)
theorem SV(n:aq):cC n n.zH=n:=rfl
structure R6(E H:List (aH×Nat))(A:List (aq×gM))(rem:List aS):Prop where
 r1:∀(k:Nat) n q,A[k]? =some (n,gM.sN q)→eL E q=some k
 r2:∀q,iW q rem=true→ ∀k,eL E q=some k→ ∃n,A[k]? =some (n,gM.sN q)
 r3:∀(k:Nat) n q,A[k]? =some (n,gM.now q)→eL H q=some k
 r4:∀q k,eL H q=some k→ ∃n,A[k]? =some (n,gM.now q)
 r5:∀q,iW q rem=true→eL H q=none
structure Rel(H:List (aH×Nat))(A:List (aq×Option aH)):Prop where
 s1:∀(k:Nat) n q,A[k]? =some (n,some q)→eL H q=some k
 s2:∀q k,eL H q=some k→ ∃n,A[k]? =some (n,some q)
theorem vO(p:aH)(h:aS)(r:List aS):iW p (h::r)=if h.aB=p then true else iW p r:=rfl
theorem wN(p:aH)(h:aS)(r:List aS):bh p (h::r)=if h.dQ=true∧h.aB=p then true else bh p r:=rfl
theorem HA(first:aq)(down:Int)(e:VX)(E:List (aH×Nat))(r:rm)(D:aH→Bool)(hD:∀p,(eL E p).isSome=D p)
  (ih:∀(H:List (aH×Nat)) (A:List (aq×Option aH)),Rel H A→(tr first down r (H,A.map Prod.fst)).2=A.map (fin r)++nx first down (fun p=>(eL H p).isSome) r):
  ∀(rem:List aS) (i:Nat) (H:List (aH×Nat)) (A:List (aq×gM)),zB rem→R6 E H A rem→(∀p,((eL H p).isSome||bh p rem)=bh p e.eF)→
   (tr first down r (kp ⟨first,down,e.id,e.on,e.off,E⟩ i rem (H,A.map Prod.fst))).2=A.map (DA e rem r)++KU first down D e r i rem++nx first down (fun p=>bh p e.eF) r
 | [],i,H,A,hd,hR,hT=>by
  have:=ih H (A.map fun x=>(x.1,match x.2 with | .now p=>some p | _=>none)) (by
   refine⟨fun k n q h=>?_,fun q k h=>?_⟩
   ·rw[List.getElem?_map]at h;cases hA:A[k]? with
    | none=>rw[hA]at h;cases h
    | some x=>
     rw[hA]at h;obtain⟨a,b⟩:=x;cases b with
     | no=>simp at h
     | sN p=>simp at h
     | now p=>
      simp at h;obtain⟨rfl,rfl⟩:=h;exact hR.r3 k _ _ hA
   ·obtain⟨n,hn⟩:=hR.r4 q k h;exact⟨n,by rw[List.getElem?_map,hn];rfl⟩)
  rw[List.map_map,List.map_map]at this;show(tr first down r (H,A.map Prod.fst)).2=_;have e1:(fun p=>(eL H p).isSome)=(fun p=>bh p e.eF):=by
   funext p;have:=hT p;simpa [bh]using this
  rw[e1]at this;have e2:(A.map (Prod.fst ∘ fun x:aq×gM=>(x.1,match x.2 with | .now p=>some p | _=>none)))=A.map Prod.fst:=List.map_congr_left (fun x _=>rfl);rw[e2]at this;rw[this];have e3:(A.map (fin r ∘ fun x:aq×gM=>(x.1,match x.2 with | .now p=>some p | _=>none)))=A.map (DA e [] r):=List.map_congr_left (fun x _=>by
   obtain⟨n,b⟩:=x;cases b<;>rfl)
  rw[e3];show _=A.map (DA e [] r)++ []++_;rw[List.append_nil]
 | x::rem,i,H,A,hd,hR,hT=>by
  obtain⟨TA,Sr⟩:=hd;have K9:iW x.aB (x::rem)=true:=by rw[vO,if_pos rfl]
  have ZU:∀q,iW q rem=true→iW q (x::rem)=true:=fun q h=>by rw[vO];split<;>first | rfl | exact h
  have dA:∀q,iW q rem=true→q≠x.aB:=fun q h e=>by rw[e,TA]at h;cases h
  have ZV:∀q,q≠x.aB→bh q (x::rem)=bh q rem:=fun q h=>by rw[wN,if_neg (fun e=>h e.2.symm)]
  have hhx:∀q,q≠x.aB→iW q (x::rem)=iW q rem:=fun q h=>by rw[vO,if_neg (fun e=>h e.symm)]
  have htn:bh x.aB rem=false:=by
   cases h:bh x.aB rem with
   | false=>rfl
   | true=>rw[zC h]at TA;cases TA
  have VY:bh x.aB (x::rem)=x.dQ:=by
   rw[wN];cases h:x.dQ with
   | true=>rw[if_pos ⟨rfl,rfl⟩]
   | false=>rw[if_neg (by simp),htn]
  show(tr first down r (kp ⟨first,down,e.id,e.on,e.off,E⟩ (i+1) rem (fu ⟨first,down,e.id,e.on,e.off,E⟩ i x (H,A.map Prod.fst)))).2=_;cases hf:eL E x.aB with
  | some k=>
   obtain⟨n,hk⟩:=hR.r2 x.aB K9 k hf;have PJ:k<A.length:=by
    rcases Nat.lt_or_ge k A.length with h | h
    ·exact h
    ·rw[List.getElem?_eq_none h]at hk;cases hk
   have Ss:(A.map Prod.fst).getD k default=n:=by
    rw[List.getD_eq_getElem?_getD,List.getElem?_map,hk];rfl
   have est:fu ⟨first,down,e.id,e.on,e.off,E⟩ i x (H,A.map Prod.fst)=(if x.dQ=true then pf H x.aB k else H,(A.set k (cC n e.off,if x.dQ=true then gM.now x.aB else gM.no)).map Prod.fst):=by
    unfold fu;simp only[hf,Ss,List.map_set]
   rw[est];have vd:∀(j:Nat) y,(A.set k (cC n e.off,if x.dQ=true then gM.now x.aB else gM.no))[j]? =some y→(j=k∧y=(cC n e.off,if x.dQ=true then gM.now x.aB else gM.no))∨(j≠k∧A[j]? =some y):=fun j y h=>by
    by_cases hj:j=k
    ·subst hj;rw[List.getElem?_set_self PJ]at h;exact .inl ⟨rfl,(Option.some.inj h).symm⟩
    ·rw[List.getElem?_set_ne (fun e=>hj e.symm)]at h;exact .inr ⟨hj,h⟩
   have DZ:R6 E (if x.dQ=true then pf H x.aB k else H) (A.set k (cC n e.off,if x.dQ=true then gM.now x.aB else gM.no)) rem:=by
    refine⟨fun j m q h=>?_,fun q h j hj=>?_,fun j m q h=>?_,fun q j h=>?_,fun q h=>?_⟩
    ·rcases vd j _ h with⟨_,h2⟩ | ⟨_,h2⟩
     ·split at h2<;>cases h2
     ·exact hR.r1 j m q h2
    ·obtain⟨m,hm⟩:=hR.r2 q (ZU q h) j hj;refine⟨m,?_⟩;rw[List.getElem?_set_ne (fun e=>?_)]
     ·exact hm
     ·subst e;rw[hk]at hm;have:=(Prod.mk.inj (Option.some.inj hm)).2;exact dA q h (gM.sN.inj this).symm
    ·rcases vd j _ h with⟨h1,h2⟩ | ⟨h1,h2⟩
     ·split at h2
      ·rename_i ht;have h3:=(Prod.mk.inj h2).2;have h4:=gM.now.inj h3;rw[if_pos ht,eO,if_pos h4,h1]
      ·cases h2
     ·have h3:=hR.r3 j m q h2;split
      ·rw[eO,if_neg (fun e=>?_)]
       ·exact h3
       ·rw[e,hR.r5 x.aB K9]at h3;cases h3
      ·exact h3
    ·split at h
     ·rename_i ht;rw[eO]at h;split at h
      ·rename_i hq;cases h;exact⟨_,by rw[List.getElem?_set_self PJ,if_pos ht,hq]⟩
      ·obtain⟨m,hm⟩:=hR.r4 q j h;refine⟨m,?_⟩;rw[List.getElem?_set_ne (fun e=>?_)]
       ·exact hm
       ·subst e;rw[hk]at hm;cases hm
     ·obtain⟨m,hm⟩:=hR.r4 q j h;refine⟨m,?_⟩;rw[List.getElem?_set_ne (fun e=>?_)]
      ·exact hm
      ·subst e;rw[hk]at hm;cases hm
    ·have h5:=hR.r5 q (ZU q h);split
     ·rw[eO,if_neg (dA q h)];exact h5
     ·exact h5
   have abY:∀p,((eL (if x.dQ=true then pf H x.aB k else H) p).isSome||bh p rem)=bh p e.eF:=fun p=>by
    rw[←hT p];by_cases hp:p=x.aB
    ·subst hp;rw[hR.r5 x.aB K9,VY,htn];cases h:x.dQ with
     | true=>rw[if_pos rfl,eO,if_pos rfl];rfl
     | false=>rw[if_neg (by simp),hR.r5 x.aB K9]
    ·rw[ZV p hp];split
     ·rw[eO,if_neg hp]
     ·rfl
   rw[HA first down e E r D hD ih rem (i+1) _ _ Sr DZ abY];have ehd:KU first down D e r i (x::rem)=KU first down D e r (i+1) rem:=by
    show(if D x.aB=true then []else _)++_=_;rw[if_pos (by rw[←hD,hf];rfl)];all_goals rfl
   rw[ehd];congr 2;apply List.ext_getElem?;intro j;rw[List.getElem?_map,List.getElem?_map];by_cases hj:j=k
   ·subst hj;rw[List.getElem?_set_self PJ,hk];show some _=some _;congr 1;show _=(if iW x.aB (x::rem)=true then(if bh x.aB (x::rem)=true then cC n (k9 x.aB r e.off)else cC n e.off)else n);rw[if_pos K9,VY];split
    ·rfl
    ·rfl
   ·rw[List.getElem?_set_ne (fun e=>hj e.symm)];cases hA:A[j]? with
    | none=>rfl
    | some y=>
     obtain⟨m,b⟩:=y;show some _=some _;congr 1;cases b with
     | no=>rfl
     | now p=>rfl
     | sN p=>
      have h1:=hR.r1 j m p hA;have hp:p≠x.aB:=fun e=>by rw[e,hf]at h1;exact hj (Option.some.inj h1).symm
      show(if iW p rem=true then(if bh p rem=true then cC m (k9 p r e.off)else cC m e.off)else m)=(if iW p (x::rem)=true then(if bh p (x::rem)=true then cC m (k9 p r e.off)else cC m e.off)else m);rw[hhx p hp,ZV p hp]
  | none=>
   have est:fu ⟨first,down,e.id,e.on,e.off,E⟩ i x (H,A.map Prod.fst)=(if x.dQ=true then pf H x.aB A.length else H,(A++ [(cC (dY first down e.on e.id x.aB i) e.off,if x.dQ=true then gM.now x.aB else gM.no)]).map Prod.fst):=by
    unfold fu;simp only[hf,List.map_append,List.length_map];rfl
   rw[est];have vd:∀(j:Nat) y,(A++ [(cC (dY first down e.on e.id x.aB i) e.off,if x.dQ=true then gM.now x.aB else gM.no)])[j]? =some y→(j=A.length∧y=(cC (dY first down e.on e.id x.aB i) e.off,if x.dQ=true then gM.now x.aB else gM.no))∨A[j]? =some y:=fun j y h=>by
    by_cases hj:j<A.length
    ·rw[List.getElem?_append_left hj]at h;exact .inr h
    ·rw[List.getElem?_append_right (by omega)]at h;by_cases K8:j=A.length
     ·subst K8;rw[Nat.sub_self]at h;exact .inl ⟨rfl,(Option.some.inj h).symm⟩
     ·rw[List.getElem?_eq_none (by simp;omega)]at h;cases h
   have hold:∀(j:Nat) y,A[j]? =some y→(A++ [(cC (dY first down e.on e.id x.aB i) e.off,if x.dQ=true then gM.now x.aB else gM.no)])[j]? =some y:=fun j y h=>by
    have hj:j<A.length:=by
     rcases Nat.lt_or_ge j A.length with k | k
     ·exact k
     ·rw[List.getElem?_eq_none k]at h;cases h
    rw[List.getElem?_append_left hj];exact h
   have DZ:R6 E (if x.dQ=true then pf H x.aB A.length else H) (A++ [(cC (dY first down e.on e.id x.aB i) e.off,if x.dQ=true then gM.now x.aB else gM.no)]) rem:=by
    refine⟨fun j m q h=>?_,fun q h j hj=>?_,fun j m q h=>?_,fun q j h=>?_,fun q h=>?_⟩
    ·rcases vd j _ h with⟨_,h2⟩ | h2
     ·split at h2<;>cases h2
     ·exact hR.r1 j m q h2
    ·obtain⟨m,hm⟩:=hR.r2 q (ZU q h) j hj;exact⟨m,hold _ _ hm⟩
    ·rcases vd j _ h with⟨h1,h2⟩ | h2
     ·split at h2
      ·rename_i ht;have h3:=(Prod.mk.inj h2).2;have h4:=gM.now.inj h3;rw[if_pos ht,eO,if_pos h4,h1]
      ·cases h2
     ·have h3:=hR.r3 j m q h2;split
      ·rw[eO,if_neg (fun e=>?_)]
       ·exact h3
       ·rw[e,hR.r5 x.aB K9]at h3;cases h3
      ·exact h3
    ·split at h
     ·rename_i ht;rw[eO]at h;split at h
      ·rename_i hq;cases h;exact⟨_,by rw[List.getElem?_append_right (Nat.le_refl _),Nat.sub_self,if_pos ht,hq];rfl⟩
      ·obtain⟨m,hm⟩:=hR.r4 q j h;exact⟨m,hold _ _ hm⟩
     ·obtain⟨m,hm⟩:=hR.r4 q j h;exact⟨m,hold _ _ hm⟩
    ·have h5:=hR.r5 q (ZU q h);split
     ·rw[eO,if_neg (dA q h)];exact h5
     ·exact h5
   have abY:∀p,((eL (if x.dQ=true then pf H x.aB A.length else H) p).isSome||bh p rem)=bh p e.eF:=fun p=>by
    rw[←hT p];by_cases hp:p=x.aB
    ·subst hp;rw[hR.r5 x.aB K9,VY,htn];cases h:x.dQ with
     | true=>rw[if_pos rfl,eO,if_pos rfl];rfl
     | false=>rw[if_neg (by simp),hR.r5 x.aB K9]
    ·rw[ZV p hp];split
     ·rw[eO,if_neg hp]
     ·rfl
   rw[HA first down e E r D hD ih rem (i+1) _ _ Sr DZ abY];have ehd:KU first down D e r i (x::rem)= [SU first down e i x r]++KU first down D e r (i+1) rem:=by
    show(if D x.aB=true then []else _)++_=_;rw[if_neg (by rw[←hD,hf];simp)]
   rw[ehd,List.map_append];have e1:A.map (DA e rem r)=A.map (DA e (x::rem) r):=by
    apply List.ext_getElem?;intro j;rw[List.getElem?_map,List.getElem?_map];cases hA:A[j]? with
    | none=>rfl
    | some y=>
     obtain⟨m,b⟩:=y;show some _=some _;congr 1;cases b with
     | no=>rfl
     | now p=>rfl
     | sN p=>
      have h1:=hR.r1 j m p hA;have hp:p≠x.aB:=fun e=>by rw[e,hf]at h1;cases h1
      show(if iW p rem=true then(if bh p rem=true then cC m (k9 p r e.off)else cC m e.off)else m)=(if iW p (x::rem)=true then(if bh p (x::rem)=true then cC m (k9 p r e.off)else cC m e.off)else m);rw[hhx p hp,ZV p hp]
   rw[e1];have e2:DA e rem r (cC (dY first down e.on e.id x.aB i) e.off,if x.dQ=true then gM.now x.aB else gM.no)=SU first down e i x r:=by
    unfold SU;cases h:x.dQ<;>rfl
   show A.map (DA e (x::rem) r)++ [DA e rem r _]++_++_=_;rw[e2];simp only[List.append_assoc]
def O0(l:rm):Prop:=∀e,some e∈l→zB e.eF
theorem HB(first:aq)(down:Int):∀(l:rm),O0 l→ ∀(H:List (aH×Nat)) (A:List (aq×Option aH)),Rel H A→
  (tr first down l (H,A.map Prod.fst)).2=A.map (fin l)++nx first down (fun p=>(eL H p).isSome) l
 | [],_,H,A,hR=>by
  show A.map Prod.fst=A.map (fin [])++ [];rw[List.append_nil];refine List.map_congr_left (fun x _=>?_);obtain⟨n,o⟩:=x;cases o<;>rfl
 | none::r,hd,H,A,hR=>by
  have ih:=HB first down r (fun e he=>hd e (by simp[he])) [] (A.map fun x=>(x.1,none)) (by
   refine⟨fun k n q h=>?_,fun q k h=>?_⟩
   ·rw[List.getElem?_map]at h;cases hA:A[k]? with
    | none=>rw[hA]at h;cases h
    | some x=>rw[hA]at h;cases h
   ·cases h)
  rw[List.map_map,List.map_map]at ih;have e1:A.map (Prod.fst ∘ fun x:aq×Option aH=>(x.1,(none:Option aH)))=A.map Prod.fst:=List.map_congr_left (fun x _=>rfl);rw[e1]at ih;show(tr first down r ([],A.map Prod.fst)).2=_;rw[ih];have e2:A.map (fin r ∘ fun x:aq×Option aH=>(x.1,(none:Option aH)))=A.map (fin (none::r)):=List.map_congr_left (fun x _=>by
   obtain⟨n,o⟩:=x;cases o<;>rfl)
  rw[e2];all_goals rfl
 | some e::r,hd,H,A,hR=>by
  have ih:=HB first down r (fun e he=>hd e (by simp[he]))
  have DZ:R6 H [] (A.map fun x=>(x.1,match x.2 with | some p=>gM.sN p | none=>gM.no)) e.eF:=by
   refine⟨fun k n q h=>?_,fun q _ k h=>?_,fun k n q h=>?_,fun q k h=>?_,fun q _=>rfl⟩
   ·rw[List.getElem?_map]at h;cases hA:A[k]? with
    | none=>rw[hA]at h;cases h
    | some x=>
     rw[hA]at h;obtain⟨a,b⟩:=x;cases b with
     | none=>simp at h
     | some p=>
      simp at h;obtain⟨rfl,rfl⟩:=h;exact hR.s1 k _ _ hA
   ·obtain⟨n,hn⟩:=hR.s2 q k h;exact⟨n,by rw[List.getElem?_map,hn];rfl⟩
   ·rw[List.getElem?_map]at h;cases hA:A[k]? with
    | none=>rw[hA]at h;cases h
    | some x=>
     rw[hA]at h;obtain⟨a,b⟩:=x;cases b<;>simp at h
   ·cases h
  have:=HA first down e H r (fun p=>(eL H p).isSome) (fun _=>rfl) ih e.eF 0 [] _ (hd e (by simp)) DZ (fun p=>by simp[eL])
  rw[List.map_map,List.map_map]at this;have e1:A.map (Prod.fst ∘ fun x:aq×Option aH=>(x.1,match x.2 with | some p=>gM.sN p | none=>gM.no))=A.map Prod.fst:=List.map_congr_left (fun x _=>rfl);rw[e1]at this;show(tr first down r (kp ⟨first,down,e.id,e.on,e.off,H⟩ 0 e.eF ([],A.map Prod.fst))).2=_;rw[this];have e2:A.map (DA e e.eF r ∘ fun x:aq×Option aH=>(x.1,match x.2 with | some p=>gM.sN p | none=>gM.no))=A.map (fin (some e::r)):=List.map_congr_left (fun x _=>by
   obtain⟨n,o⟩:=x;cases o with
   | none=>rfl
   | some p=>
    show(if iW p e.eF=true then(if bh p e.eF=true then cC n (k9 p r e.off)else cC n e.off)else n)=cC n (if iW p e.eF=true then(if bh p e.eF=true then k9 p r e.off else e.off)else n.zH);split
    ·split<;>rfl
    ·rfl)
  rw[e2,List.append_assoc];all_goals rfl
theorem VZ(first:aq)(down:Int)(l:rm)(hd:O0 l)(out:List aq):(tr first down l ([],out)).2=out++nx first down (fun _=>false) l:=by
 have:=HB first down l hd [] (out.map fun n=>(n,none)) (by
  refine⟨fun k n q h=>?_,fun q k h=>?_⟩
  ·rw[List.getElem?_map]at h;cases hA:out[k]? with
   | none=>rw[hA]at h;cases h
   | some x=>rw[hA]at h;cases h
  ·cases h)
 rw[List.map_map,List.map_map]at this;have e1:out.map (Prod.fst ∘ fun n:aq=>(n,(none:Option aH)))=out:=by
  conv=>rhs;rw[←List.map_id out]
  exact List.map_congr_left (fun x _=>rfl)
 have e2:out.map (fin l ∘ fun n:aq=>(n,(none:Option aH)))=out:=by
  conv=>rhs;rw[←List.map_id out]
  exact List.map_congr_left (fun x _=>rfl)
 rw[e1,e2]at this;rw[this];all_goals rfl
def ae.FN(s:ae)(i c v k:Nat):VX:=⟨s.bf.getD i default+iM (s.lens i c v) k,s.bf.getD i default+iM (s.lens i c v) (k+1),(s.ev i c v k).ID,(s.ev i c v k).aE⟩
def ae.lJ(s:ae)(i c v:Nat):Nat:=(s.vo i c v).ak.length
def ae.oA(s:ae)(i c v:Nat):rm:=(List.range (s.lJ i c v)).map fun k=>some (s.FN i c v k)
def ae.rL(s:ae)(i c v:Nat):rm:=if s.lJ i c v=0 then [none]else s.oA i c v
def ae.la(s:ae)(c v:Nat):Nat→Nat→rm
 | 0,_=> []
 | n+1,i=>s.rL i c v++s.la c v n (i+1)
theorem qY(first:aq)(down:Int):∀(a b:rm) (s:List (aH×Nat)×List aq),tr first down (a++b) s=tr first down b (tr first down a s)
 | [],b,s=>rfl
 | none::r,b,s=>qY first down r b _
 | some e::r,b,s=>qY first down r b _
theorem mV(L:ql):∀(a b:List cY) (s:mU×List aq×Bool),cD L (a++b) s=cD L b (cD L a s)
 | [],b,s=>rfl
 | x::r,b,s=>mV L r b _
theorem qv(L:ql):∀(a:List cY) (s:mU×List aq×Bool),(∀x∈a,L.here x=false)→cD L a s=s
 | [],s,h=>rfl
 | x::r,s,h=>by
  show cD L r (dv L x s)=s;have e:dv L x s=s:=by
   unfold dv;rw[if_neg (by rw[h x (by simp)];simp)]
  rw[e];exact qv L r s (fun y hy=>h y (by simp[hy]))
theorem DB(first:aq)(down:Int)(m:aj)(du:Int)(st nu c v:Nat)(ls:List Int)(k:Nat):(⟨first,down,m,du,st,nu⟩:ql).here (gT c v ls k)=(decide (c=st)&&decide (v=nu)):=by
 unfold ql.here gT;rw[aR];congr 1
 ·show((c:Int)==(st:Int))=_;rw[Bool.eq_iff_iff];simp;omega
 ·show((v:Int)==(nu:Int))=_;rw[Bool.eq_iff_iff];simp;omega
def uz(m:aj)(c v:Nat)(du:Int)(ls:List Int)(k:Nat):VX:=
 ⟨du+iM ls k,du+iM ls (k+1),(((m.Cells.getD c default).ai.getD v default).ak.getD k default).ID,(((m.Cells.getD c default).ai.getD v default).ak.getD k default).aE⟩
theorem zD(first:aq)(down:Int)(m:aj)(du:Int)(c v:Nat)(ls:List Int):∀(ks:List Nat) (H:mU) (out:List aq) (b:Bool),
  cD ⟨first,down,m,du,c,v⟩ (ks.map (gT c v ls)) (H,out,b)=
   if ks= []then(H,out,b)else(some (tr first down (ks.map fun k=>some (uz m c v du ls k)) (vC H,out)).1,(tr first down (ks.map fun k=>some (uz m c v du ls k)) (vC H,out)).2,true)
 | [],H,out,b=>rfl
 | k::r,H,out,b=>by
  rw[if_neg (by simp)];show cD _ (r.map (gT c v ls)) (dv ⟨first,down,m,du,c,v⟩ (gT c v ls k) (H,out,b))=_;have e:dv ⟨first,down,m,du,c,v⟩ (gT c v ls k) (H,out,b)=(some (tr first down [some (uz m c v du ls k)] (vC H,out)).1,(tr first down [some (uz m c v du ls k)] (vC H,out)).2,true):=by
   unfold dv;rw[if_pos (by rw[DB];simp)];all_goals rfl
  rw[e,zD first down m du c v ls r];have e2:tr first down ((k::r).map fun k=>some (uz m c v du ls k)) (vC H,out)=tr first down (r.map fun k=>some (uz m c v du ls k)) (tr first down [some (uz m c v du ls k)] (vC H,out)):=qY first down [some (uz m c v du ls k)] (r.map fun k=>some (uz m c v du ls k)) _
  rw[e2];by_cases hr:r= []
  ·subst hr;rw[if_pos rfl];all_goals rfl
  ·rw[if_neg hr];rfl
theorem HC{len:Int}{c:Nat}(L:ql)(hc:c≠L.aC){vs:List ax}{j:Nat}(h:∀v∈vs,(bu v len).2=0)(s:mU×List aq×Bool):cD L (j9 len c j vs) s=s:=by
 refine qv L _ s (fun x hx=>?_);obtain⟨a,k,_,_,rfl⟩:=vN h hx;obtain⟨f,d,m,o,st,nu⟩:=L;rw[DB,decide_eq_false hc];all_goals rfl
theorem oC(L:ql)(len:Int)(c:Nat)(hc:c=L.aC):∀(vs:List ax) (j:Nat) (s:mU×List aq×Bool),(∀v∈vs,(bu v len).2=0)→
  cD L (j9 len c j vs) s=if j≤L.number∧L.number<j+vs.length then cD L ((List.range (vs.getD (L.number-j) default).ak.length).map (gT c L.number (bu (vs.getD (L.number-j) default) len).1)) s else s
 | [],j,s,h=>by rw[if_neg (by simp)];rfl
 | v::r,j,s,h=>by
  show cD L (cL len c j 0 (cm v len).1++j9 len c (j+1) r) s=_;rw[mV,oC L len c hc r (j+1) _ (fun x hx=>h x (by simp[hx])),jY (ju (h v (by simp)))];rw[List.length_cons];by_cases hj:j=L.number
  ·rw[if_neg (by omega),if_pos (by omega),hj,Nat.sub_self];all_goals rfl
  ·have hsk:cD L ((List.range v.ak.length).map (gT c j (bu v len).1)) s=s:=by
    refine qv L _ s (fun x hx=>?_);obtain⟨k,_,rfl⟩:=List.mem_map.1 hx;obtain⟨f,d,m,o,st,nu⟩:=L;rw[DB,decide_eq_false (show ¬j=nu from hj),Bool.and_false]
   rw[hsk];by_cases vX:j+1≤L.number∧L.number<j+1+r.length
   ·rw[if_pos vX,if_pos (by omega)];rw[show L.number-j=(L.number-(j+1))+1 by omega];all_goals rfl
   ·rw[if_neg vX,if_neg (by omega)]
theorem uA(L:ql)(len:Int):∀(cs:List aI) (b:Nat) (s:mU×List aq×Bool),(∀c∈cs,∀v∈c.ai,(bu v len).2=0)→
  cD L (kP len b cs) s=if b≤L.aC∧L.aC<b+cs.length then cD L (j9 len L.aC 0 (cs.getD (L.aC-b) default).ai) s else s
 | [],b,s,h=>by rw[if_neg (by simp)];rfl
 | c::r,b,s,h=>by
  show cD L (j9 len b 0 c.ai++kP len (b+1) r) s=_;rw[mV,uA L len r (b+1) _ (fun x hx=>h x (by simp[hx])),List.length_cons];by_cases hb:b=L.aC
  ·rw[if_neg (by omega),if_pos (by omega),hb,Nat.sub_self];all_goals rfl
  ·rw[HC L hb (h c (by simp))];by_cases vX:b+1≤L.aC∧L.aC<b+1+r.length
   ·rw[if_pos vX,if_pos (by omega),show L.aC-b=(L.aC-(b+1))+1 by omega];all_goals rfl
   ·rw[if_neg vX,if_neg (by omega)]
theorem sK{s:ae}{i c v:Nat}(h:¬(c<(s.aa.getD i default).Cells.length∧v<s.kx i c)):(s.vo i c v).ak.length=0:=by
 unfold ae.vo;by_cases hc:c<(s.aa.getD i default).Cells.length
 ·have hv:¬v<((s.aa.getD i default).Cells.getD c default).ai.length:=fun hv=>h ⟨hc,hv⟩
  rw[List.getD_eq_getElem?_getD (l:=((s.aa.getD i default).Cells.getD c default).ai),List.getElem?_eq_none (by omega)];all_goals rfl
 ·rw[List.getD_eq_getElem?_getD (l:=(s.aa.getD i default).Cells),List.getElem?_eq_none (by omega)];rfl
theorem nw.KV{s:ae}(h:nw s){i:Nat}(hi:i<s.aa.length)(first:aq)(down du:Int)(c v:Nat)(S:mU×List aq×Bool):
  cD ⟨first,down,s.aa.getD i default,du,c,v⟩ (cJ (s.aa.getD i default)).1 S=cD ⟨first,down,s.aa.getD i default,du,c,v⟩ ((List.range (s.lJ i c v)).map (gT c v (s.lens i c v))) S:=by
 have hm:=av hi;rw[h.bH _ hm];show cD _ (kP (s.aa.getD i default).len 0 (s.aa.getD i default).Cells) S=_;rw[uA _ _ _ 0 S (h.dI _ hm)];by_cases vX:c<(s.aa.getD i default).Cells.length∧v<s.kx i c
 ·obtain⟨hc,hv⟩:=vX;rw[if_pos ⟨Nat.zero_le _,by show c<0+_;omega⟩];rw[oC _ _ _ rfl _ 0 S (h.dI _ hm _ (av (k:=c-0) (by omega)))];have w7:v<((s.aa.getD i default).Cells.getD (c-0) default).ai.length:=hv;rw[if_pos ⟨Nat.zero_le _,by show v<0+_;omega⟩];all_goals rfl
 ·have e0:s.lJ i c v=0:=sK vX;rw[e0];show _=S;by_cases hc:c<(s.aa.getD i default).Cells.length
  ·have hv:¬v<((s.aa.getD i default).Cells.getD c default).ai.length:=fun hv=>vX ⟨hc,hv⟩
   rw[if_pos ⟨Nat.zero_le _,by show c<0+_;omega⟩];rw[oC _ _ _ rfl _ 0 S (h.dI _ hm _ (av (k:=c-0) (by omega)))];rw[if_neg (fun hh=>hv (by have:=hh.2;rw[Nat.zero_add]at this;exact this))]
  ·rw[if_neg (fun hh=>hc (by have:=hh.2;rw[Nat.zero_add]at this;exact this))]
theorem nw.DC{s:ae}(h:nw s)(first:aq)(down:Int)(c v:Nat):∀(n i:Nat) (H:mU) (out:List aq),i+n=s.aa.length→
  (Hz first down c v s.bf i (s.aa.drop i) (H,out)).2=(tr first down (s.la c v n i) (vC H,out)).2
 | 0,i,H,out,hn=>by
  rw[List.drop_eq_nil_of_le (by omega)];all_goals rfl
 | n+1,i,H,out,hn=>by
  have hi:i<s.aa.length:=by omega
  rw[aF hi];have e:cD ⟨first,down,s.aa.getD i default,s.bf.getD i default,c,v⟩ (cJ (s.aa.getD i default)).1 (H,out,false)=if List.range (s.lJ i c v)= []then(H,out,false)else(some (tr first down (s.oA i c v) (vC H,out)).1,(tr first down (s.oA i c v) (vC H,out)).2,true):=by
   rw[h.KV hi,zD];all_goals rfl
  show(Hz first down c v s.bf (i+1) (s.aa.drop (i+1)) (if(cD ⟨first,down,s.aa.getD i default,s.bf.getD i default,c,v⟩ (cJ (s.aa.getD i default)).1 (H,out,false)).2.2=true then(cD ⟨first,down,s.aa.getD i default,s.bf.getD i default,c,v⟩ (cJ (s.aa.getD i default)).1 (H,out,false)).1 else none,(cD ⟨first,down,s.aa.getD i default,s.bf.getD i default,c,v⟩ (cJ (s.aa.getD i default)).1 (H,out,false)).2.1)).2=(tr first down (s.rL i c v++s.la c v n (i+1)) (vC H,out)).2;rw[e,qY];unfold ae.rL;by_cases h0:s.lJ i c v=0
  ·rw[if_pos h0,h0];rw[show(List.range 0)= []from rfl,if_pos rfl];rw[if_neg (by simp)];exact h.DC first down c v n (i+1) none out (by omega)
  ·have dA:List.range (s.lJ i c v)≠ []:=fun e=>h0 (by simpa using e)
   rw[if_neg h0,if_neg dA,if_pos rfl];exact h.DC first down c v n (i+1) _ _ (by omega)
def ae.wO(s:ae)(c v:Nat):List aq:=nx (gF (s.partOf c).1 (s.partOf c).2.1 v) (s.iV (s.partOf c).1) (fun _=>false) (s.la c v s.aa.length 0)
theorem rM:∀ {l:List aS} {last:Int},jS last l=0→zB l∧ ∀h∈l,last<h.aB.num∧h.err=0
 | [],last,h=>⟨trivial,fun x hx=>by simp at hx⟩
 | x::r,last,h=>by
  unfold jS at h;split at h
  ·rename_i h1;exact absurd h h1
  ·rename_i h1;split at h
   ·cases h
   ·rename_i h2;obtain⟨h3,h4⟩:=rM h;refine⟨⟨?_,h3⟩,fun y hy=>?_⟩
    ·cases hh:iW x.aB r with
     | false=>rfl
     | true=>
      exfalso;have:∀ {l:List aS},iW x.aB l=true→ ∃y∈l,y.aB=x.aB:=by
       intro l;induction l with
       | nil=>intro h;cases h
       | cons a l ih=>
        intro h;unfold iW at h;split at h
        ·rename_i e;exact⟨a,by simp,e⟩
        ·obtain⟨y,hy,e⟩:=ih h;exact⟨y,by simp[hy],e⟩
      obtain⟨y,hy,e⟩:=this hh;have:=(h4 y hy).1;rw[e]at this;omega
    ·rcases List.mem_cons.1 hy with rfl | hy
     ·exact⟨by omega,Decidable.not_not.1 h1⟩
     ·have:=h4 y hy;exact⟨by omega,this.2⟩
theorem uB{p:aH} :∀ {l:List aS},iW p l=true↔ ∃y∈l,y.aB=p
 | []=>⟨fun h=>(by cases h),fun⟨y,hy,_⟩=>by simp at hy⟩
 | a::l=>by
  unfold iW;constructor
  ·intro h;split at h
   ·rename_i e;exact⟨a,by simp,e⟩
   ·obtain⟨y,hy,e⟩:=uB.1 h;exact⟨y,by simp[hy],e⟩
  ·rintro⟨y,hy,e⟩;rcases List.mem_cons.1 hy with rfl | hy
   ·rw[if_pos e]
   ·split
    ·rfl
    ·exact uB.2 ⟨y,hy,e⟩
theorem sM{p:aH} :∀ {l:List aS},bh p l=true↔ ∃y∈l,y.dQ=true∧y.aB=p
 | []=>⟨fun h=>(by cases h),fun⟨y,hy,_⟩=>by simp at hy⟩
 | a::l=>by
  unfold bh;constructor
  ·intro h;split at h
   ·rename_i e;exact⟨a,by simp,e⟩
   ·obtain⟨y,hy,e⟩:=sM.1 h;exact⟨y,by simp[hy],e⟩
  ·rintro⟨y,hy,e⟩;rcases List.mem_cons.1 hy with rfl | hy
   ·rw[if_pos e]
   ·split
    ·rfl
    ·exact sM.2 ⟨y,hy,e⟩
theorem vP{e:aD}(h:e.err=0):(e.Kind≠1→e.aE= [])∧zB e.aE∧ ∀x∈e.aE,x.err=0:=by
 unfold aD.err at h;split at h
 ·rename_i h1;exact absurd h h1
 ·by_cases hko:kindOk e.Kind=false
  ·rw[if_pos hko]at h;cases h
  ·rw[if_neg hko]at h;by_cases hs:mR e e.strip=false
   ·rw[if_pos hs]at h;cases h
   ·rw[if_neg hs]at h;have hs:mR e e.strip=true:=by simpa using hs
    by_cases hc:(bif(e.Kind !=3)then((if e.Value.ok then(0:Int)else 17)!=0)else false)=true
    ·rw[if_pos hc]at h;cases h
    ·rw[if_neg hc]at h;by_cases hk:e.Kind=1
     ·unfold GV at h;rw[if_pos hk]at h;have h0:jh e.aE=0:=by
       by_cases h2:aW [jh e.aE,km e.cQ,kn e.bz]≠0
       ·rw[if_pos h2]at h;exact absurd h h2
       ·have h2:=Decidable.not_not.1 h2;unfold aW at h2;by_cases h3:jh e.aE≠0
        ·rw[if_pos h3]at h2;exact h2
        ·exact Decidable.not_not.1 h3
      unfold jh at h0;split at h0
      ·cases h0
      ·split at h0
       ·cases h0
       ·obtain⟨h3,h4⟩:=rM h0;exact⟨fun b9=>absurd hk b9,h3,fun x hx=>(h4 x hx).2⟩
     ·have h1:e.aE= []:=by
       unfold mR at hs;simp only[aR,Bool.and_eq_true,decide_eq_true_eq]at hs;have h2:=hs.1.1.2;rw[h2];unfold aD.strip;rw[if_neg ?_];have h3:kindOk e.Kind=true:=by simpa using hko
       rw[h3];simpa using hk
      rw[h1];exact⟨fun _=>rfl,trivial,fun x hx=>by simp at hx⟩
theorem zB.ab1{l:List aS}(h:zB l){x:aS}(hx:x∈l):bh x.aB l=x.dQ:=by
 induction l with
 | nil=>simp at hx
 | cons a l ih=>
  obtain⟨h1,h2⟩:=h;unfold bh;rcases List.mem_cons.1 hx with rfl | hx
  ·cases ht:x.dQ with
   | true=>rw[if_pos ⟨rfl,rfl⟩]
   | false=>
    rw[if_neg (by simp)];cases hh:bh x.aB l with
    | false=>rfl
    | true=>rw[zC hh]at h1;cases h1
  ·rw[if_neg (fun e=>?_)]
   ·exact ih h2 hx
   ·rw[uB.2 ⟨x,hx,e.2.symm⟩]at h1;cases h1
theorem HD{s:ae}{i k v:Nat}(hi:i<s.aa.length)(hk:k<(s.aa.getD i default).Cells.length)(hv:v<s.kx i k):cO s i k v=(s.vo i k v).ak:=by
 unfold cO;rw[if_neg ?_]
 ·rfl
 ·have e:Ny s i k v=false:=by
   unfold Ny Wm Wl Wk Wj;simp only[aX,Bool.or_eq_false_iff,decide_eq_false_iff_not];refine⟨⟨⟨⟨⟨by omega,by omega⟩,by omega⟩,?_⟩,by omega⟩,?_⟩
   ·unfold ae.Q2;rw[Int.toNat_natCast];omega
   ·unfold ae.Wi ae.Q2;rw[Int.toNat_natCast,Int.toNat_natCast,←oy];omega
  rw[e];simp
theorem nw.next{s:ae}(h:nw s){i c v k:Nat}(hA:At s i c v k){p:aH}(ht:bh p (s.ev i c v k).aE=true):
  (k+1<s.lJ i c v∧iW p (s.ev i c v (k+1)).aE=true)∨(k+1=s.lJ i c v∧At s (i+1) c v 0∧iW p (s.ev (i+1) c v 0).aE=true):=by
 obtain⟨y,hy,hyt,hyp⟩:=sM.1 ht;have ab2:=vP (h.r8 i c v k hA);have ph:(s.ev i c v k).Kind=1:=Decidable.by_contra fun hk=>by rw[ab2.1 hk]at hy;simp at hy
 have Y4:(s.ev i c v k).CH=true:=by
  unfold aD.CH;rw[ph];show(s.ev i c v k).aE.any aS.dQ=true;exact List.any_eq_true.2 ⟨y,hy,hyt⟩
 have pV:=h.r10 i c v k hA;unfold Oj at pV;rw[Y4]at pV;have R7:=HD hA.hi hA.hc hA.hv;have hpe:eK s (kV i c v k)=0:=by
  unfold eK kK kV;have hx:(k:Int)<((s.vo i c v).ak.length:Int):=Int.ofNat_lt.2 hA.hx;have e1:decide ((k:Int)≥((cO s (i:Int) (c:Int) (v:Int)).length:Int))=false:=decide_eq_false (by rw[R7];omega);have e2:decide ((k:Int)<0)=false:=decide_eq_false (by omega);simp only[e1,e2];rfl
 have SW:∀e:aD,oc (s.ev i c v k) e=true→iW p e.aE=true:=fun e hj=>by
  unfold oc at hj;rw[if_neg (by rw[ph];simp)]at hj;have hj:(s.ev i c v k).aE.any (oa e)=false:=by simpa using hj
  have:=List.any_eq_false.1 hj y hy;unfold oa at this;rw[hyt]at this;have h2:(bif(e.Kind==1)then e.aE.any (qR y)else false)=true:=by simpa using this
  rw[aR,Bool.and_eq_true]at h2;obtain⟨z,hz,hs⟩:=List.any_eq_true.1 h2.2;unfold qR at hs;rw[Rr]at hs;have hs:=of_decide_eq_true hs;exact uB.2 ⟨z,hz,by rw[hs,hyp]⟩
 unfold mF at pV;rw[hpe]at pV;have hlen:(cO s (kV i c v k).bc (kV i c v k).bA (kV i c v k).cj)=(s.vo i c v).ak:=R7;by_cases h1:k+1<s.lJ i c v
 ·refine .inl ⟨h1,?_⟩;have h2:(kV i c v k).Event+1<((cO s (kV i c v k).bc (kV i c v k).bA (kV i c v k).cj).length:Int):=by
   rw[hlen];show(k:Int)+1<_;unfold ae.lJ at h1;omega
  rw[if_neg (by simp),if_neg (by simp),if_pos h2]at pV;have pV:oc (s.ev i c v k) (gK s ⟨4,0,c,i,v,(k:Int)+1,0⟩).1=true:=by simpa [kV]using pV
  have dq:(gK s ⟨4,0,c,i,v,(k:Int)+1,0⟩).1=s.ev i c v (k+1):=by
   unfold gK;have V0:eK s ⟨4,0,c,i,v,(k:Int)+1,0⟩=0:=by
    unfold eK kK;have e1:decide ((k:Int)+1≥((cO s (i:Int) (c:Int) (v:Int)).length:Int))=false:=decide_eq_false (by rw[R7];unfold ae.lJ at h1;omega);have e2:decide ((k:Int)+1<0)=false:=decide_eq_false (by omega);simp only[e1,e2];rfl
   rw[V0,if_neg (by simp)];show(cO s (i:Int) (c:Int) (v:Int)).getD ((k:Int)+1).toNat default=_;rw[R7,show((k:Int)+1).toNat=k+1 by omega];all_goals rfl
  rw[dq]at pV;exact SW _ pV
 ·have hx:=hA.hx;have h1e:k+1=s.lJ i c v:=by unfold ae.lJ at h1 ⊢;omega
  refine .inr ⟨h1e,?_⟩;have h2:¬(kV i c v k).Event+1<((cO s (kV i c v k).bc (kV i c v k).bA (kV i c v k).cj).length:Int):=by
   rw[hlen];show ¬(k:Int)+1<_;unfold ae.lJ at h1e;omega
  rw[if_neg (by simp),if_neg (by simp),if_neg h2]at pV;by_cases h3:(cO s ((kV i c v k).bc+1) (kV i c v k).bA (kV i c v k).cj).length>0
  ·rw[if_pos h3]at pV;have pV:oc (s.ev i c v k) (gK s ⟨4,0,c,(i:Int)+1,v,0,0⟩).1=true:=by simpa [kV]using pV
   have h3:(cO s ((i:Int)+1) (c:Int) (v:Int)).length>0:=h3;rcases wK s ((i:Int)+1) c v with e | ⟨i2,c2,v2,q1,q2,q3,hi,hc,hv,e⟩
   ·rw[e]at h3;simp at h3
   ·obtain rfl:i2=i+1:=by omega
    obtain rfl:c2=c:=by omega
    obtain rfl:v2=v:=by omega
    have Ma:At s (i+1) c2 v2 0:=⟨hi,hc,hv,by rw[←e];exact h3⟩;refine⟨Ma,?_⟩;have dq:(gK s ⟨4,0,c2,(i:Int)+1,v2,0,0⟩).1=s.ev (i+1) c2 v2 0:=by
     unfold gK;have V0:eK s ⟨4,0,c2,(i:Int)+1,v2,0,0⟩=0:=by
      unfold eK kK;have e1:decide ((0:Int)≥((cO s ((i:Int)+1) (c2:Int) (v2:Int)).length:Int))=false:=decide_eq_false (by omega);have e2:decide ((0:Int)<0)=false:=by decide
      simp only[e1,e2];rfl
     rw[V0,if_neg (by simp)];show(cO s ((i:Int)+1) (c2:Int) (v2:Int)).getD (0:Int).toNat default=_;rw[e];all_goals rfl
    rw[dq]at pV;exact SW _ pV
  ·rw[if_neg h3]at pV;simp at pV
def ae.rest(s:ae)(c v i k:Nat):rm:=(s.oA i c v).drop k++s.la c v (s.aa.length-(i+1)) (i+1)
theorem oD(s:ae)(i c v:Nat):(s.oA i c v).length=s.lJ i c v:=by unfold ae.oA;simp
theorem vQ{s:ae}{c v i k:Nat}(h:k<s.lJ i c v):s.rest c v i k=some (s.FN i c v k)::s.rest c v i (k+1):=by
 unfold ae.rest;rw[List.drop_eq_getElem_cons (by rw[oD];exact h)];have:(s.oA i c v)[k]'(by rw[oD];exact h)=some (s.FN i c v k):=by
  unfold ae.oA;simp
 rw[this];all_goals rfl
theorem O1{s:ae}{c v i k:Nat}(h:k=s.lJ i c v)(hi:i+1<s.aa.length)(hn:0<s.lJ (i+1) c v):s.rest c v i k=s.rest c v (i+1) 0:=by
 unfold ae.rest;rw[List.drop_eq_nil_of_le (by rw[oD];omega),List.nil_append,List.drop_zero];obtain⟨n,hn2⟩:∃n,s.aa.length-(i+1)=n+1:=⟨s.aa.length-(i+1)-1,by omega⟩
 rw[hn2,show s.aa.length-(i+1+1)=n by omega];show s.rL (i+1) c v++s.la c v n (i+1+1)=_;unfold ae.rL;rw[if_neg (by omega)]
theorem HE{s:ae}{i c v k:Nat}(hA:At s i c v k):k<s.lJ i c v:=hA.hx
theorem BC{s:ae}{i c v k:Nat}(hi:i<s.aa.length)(h:k<s.lJ i c v):At s i c v k:=by
 by_cases vX:c<(s.aa.getD i default).Cells.length∧v<s.kx i c
 ·exact⟨hi,vX.1,vX.2,h⟩
 ·have:=sK vX;unfold ae.lJ at h;omega
theorem Good.HF{s:ae}(h:Good s){i c v k:Nat}(hA:At s i c v k):
  (s.iy i c v).length=s.lJ i c v∧(s.lens i c v).length=s.lJ i c v∧IntKind.i64.wrap (s.bf.getD i default+(s.iy i c v).getD k default)=(s.FN i c v k).on∧
   IntKind.i64.wrap (IntKind.i64.wrap (s.bf.getD i default+(s.iy i c v).getD k default)+(s.lens i c v).getD k default)=(s.FN i c v k).off:=by
 have hv:=h.vl.vo hA.hi hA.hc hA.hv;have hx:=hA.hx;have hlen:(s.lens i c v).length=s.lJ i c v:=hv.len;have Ff:s.iy i c v=ml 0 (s.lens i c v):=by
  show(cm _ _).1=_;rw[hv.iy]
 have hk:k<(s.lens i c v).length:=by rw[hlen];exact hx
 have hs:=qX s h.sm.kM;have j3:s.bf.getD i default∈s.bf:=av (by rw[hs.1];have:=hA.hi;omega);have hb:=hs.2 _ j3;have fw:=(s.aa.getD i default).uj;have e1:=hv.Dx (k:=k) fw (by omega);have e2:=hv.Dx (k:=k+1) fw (by omega);have e3:=Bo hk;refine⟨by rw[Ff,l7,hlen],hlen,?_,?_⟩
 ·rw[Ff,hv.on k hk,wrap_i64 (by omega) (by omega)];all_goals rfl
 ·have w1:IntKind.i64.wrap (s.bf.getD i default+iM (s.lens i c v) k)=s.bf.getD i default+iM (s.lens i c v) k:=wrap_i64 (by omega) (by omega);rw[Ff,hv.on k hk,w1,wrap_i64 (by omega) (by omega)];show _=s.bf.getD i default+iM (s.lens i c v) (k+1);omega
theorem Good.mH{s:ae}(h:Good s)(c v:Nat)(p:aH):∀(n i k:Nat),At s i c v k→30*(s.aa.length-i)+30≤n+k→
  s.mH c v p n i k=if bh p (s.ev i c v k).aE=true then k9 p (s.rest c v i (k+1)) (s.FN i c v k).off else(s.FN i c v k).off
 | 0,i,k,hA,hn=>by
  have:=(h.sm.VR hA.hi hA.hc hA.hv).events;have:=hA.hx;have:=hA.hi;omega
 | n+1,i,k,hA,hn=>by
  obtain⟨l1,l2,l3,l4⟩:=h.HF hA;have hx:=HE hA;have h20:s.lJ i c v≤20:=(h.sm.VR hA.hi hA.hc hA.hv).events;have hi:=hA.hi;unfold ae.mH;rw[if_pos ⟨hA.hi,hA.hv⟩,if_neg (by unfold ae.lJ at*;omega)];by_cases ht:bh p (s.ev i c v k).aE=true
  ·rw[if_neg (by rw[ht];simp),if_pos ht];rcases h.vl.next hA ht with⟨h1,h2⟩ | ⟨h1,Ma,h2⟩
   ·rw[if_neg (by unfold ae.lJ at h1;omega)];have Ma:At s i c v (k+1):=⟨hA.hi,hA.hc,hA.hv,h1⟩;rw[h.mH c v p n i (k+1) Ma (by omega),vQ h1];show _=if iW p (s.ev i c v (k+1)).aE=true then(if bh p (s.ev i c v (k+1)).aE=true then k9 p (s.rest c v i (k+1+1)) (s.FN i c v (k+1)).off else(s.FN i c v (k+1)).off)else _
    rw[if_pos h2]
   ·rw[if_pos (show k+1=(s.vo i c v).ak.length from h1)];have PF:=Ma.hi;rw[h.mH c v p n (i+1) 0 Ma (by omega),O1 h1 Ma.hi (HE Ma),vQ (HE Ma)];show _=if iW p (s.ev (i+1) c v 0).aE=true then(if bh p (s.ev (i+1) c v 0).aE=true then k9 p (s.rest c v (i+1) (0+1)) (s.FN (i+1) c v 0).off else(s.FN (i+1) c v 0).off)else _
    rw[if_pos h2]
  ·have ht:bh p (s.ev i c v k).aE=false:=by simpa using ht
   rw[if_pos ht,if_neg (by rw[ht];simp)];exact l4
theorem Good.ending{s:ae}(h:Good s){c v i k:Nat}(p:aH)(hA:At s i c v k):
  s.ending i c v k p=if bh p (s.ev i c v k).aE=true then k9 p (s.rest c v i (k+1)) (s.FN i c v k).off else(s.FN i c v k).off:=by
 unfold ae.ending;exact h.mH c v p _ i k hA (by omega)
def ae.SX(s:ae)(i c v k:Nat):Nat→List aS→List aq
 | _,[]=> []
 | h,y::r=>(if bh y.aB (s.before i c v k)=true then []else [s.qm i c v k ((s.iy i c v).getD k default) (s.ev i c v k).ID h y.aB])++s.SX i c v k (h+1) r
def ae.evB(s:ae)(i c v k:Nat):List aq:=s.SX i c v k 0 (s.ev i c v k).aE
def ae.zK(s:ae)(i c v:Nat):List aq:=(List.range' 0 (s.lJ i c v)).flatMap (s.evB i c v)
theorem O2(p:aH):0≤nq p∧nq p≤127:=by
 unfold nq;split
 ·rename_i h;unfold aH.ok at h;simp only[Bool.and_eq_true,decide_eq_true_eq]at h;omega
 ·omega
theorem Good.SU{s:ae}(h:Good s){i c v k:Nat}(hA:At s i c v k)(hc:c<s.o5)(x:Nat)(y:aS)(hy:y∈(s.ev i c v k).aE):
  SU (gF (s.partOf c).1 (s.partOf c).2.1 v) (s.iV (s.partOf c).1) (s.FN i c v k) x y (s.rest c v i (k+1))=s.qm i c v k ((s.iy i c v).getD k default) (s.ev i c v k).ID x y.aB:=by
 obtain⟨p,q,h1,h2,h3,h4⟩:=h.sm.part hc;obtain⟨l1,l2,l3,l4⟩:=h.HF hA;have hd:=(vP (h.vl.r8 i c v k hA)).2.1.ab1 hy;have Kj:=h.ending y.aB hA;have UG:s.numOf (p:Int) y.aB=nq y.aB-s.iV (p:Int):=by
  unfold ae.numOf ae.iV;have hn:=O2 y.aB;split
  ·have hs:=h.wB _ (av h3);rw[Int.toNat_natCast];exact wrap_i64 (by omega) (by omega)
  ·omega
 unfold Go.Hm.SU ae.qm dY cC gF;rw[h1,h2];simp only;rw[l3,Kj,hd,UG];all_goals rfl
theorem Good.KU{s:ae}(h:Good s){i c v k:Nat}(hA:At s i c v k)(hc:c<s.o5):∀(l:List aS) (x:Nat),(∀y∈l,y∈(s.ev i c v k).aE)→
  KU (gF (s.partOf c).1 (s.partOf c).2.1 v) (s.iV (s.partOf c).1) (fun p=>bh p (s.before i c v k)) (s.FN i c v k) (s.rest c v i (k+1)) x l=s.SX i c v k x l
 | [],x,hl=>rfl
 | y::r,x,hl=>by
  unfold Go.Hm.KU ae.SX;rw[h.SU hA hc x y (hl y (by simp)),h.KU hA hc r (x+1) (fun z hz=>hl z (by simp[hz]))]
theorem Fw(s:ae)(i c v k:Nat):s.before i c v (k+1)=(s.ev i c v k).aE:=by
 unfold ae.before;rw[if_pos (by omega)];all_goals rfl
theorem Good.SY{s:ae}(h:Good s){c v i:Nat}(hi:i<s.aa.length)(hc:c<s.o5):∀(n k:Nat),k+n=s.lJ i c v→
  nx (gF (s.partOf c).1 (s.partOf c).2.1 v) (s.iV (s.partOf c).1) (fun p=>bh p (s.before i c v k)) (s.rest c v i k)=
   (List.range' k n).flatMap (s.evB i c v)++nx (gF (s.partOf c).1 (s.partOf c).2.1 v) (s.iV (s.partOf c).1) (fun p=>bh p (s.before i c v (s.lJ i c v))) (s.la c v (s.aa.length-(i+1)) (i+1))
 | 0,k,hk=>by
  obtain rfl:k=s.lJ i c v:=by omega
  unfold ae.rest;rw[List.drop_eq_nil_of_le (by rw[oD];omega)];all_goals rfl
 | n+1,k,hk=>by
  have b9:k<s.lJ i c v:=by omega
  have ih:=h.SY (v:=v) hi hc n (k+1) (by omega);rw[vQ b9];show Go.Hm.KU _ _ (fun p=>bh p (s.before i c v k)) (s.FN i c v k) (s.rest c v i (k+1)) 0 (s.ev i c v k).aE++nx _ _ (fun p=>bh p (s.ev i c v k).aE) (s.rest c v i (k+1))=_;rw[h.KU (BC hi b9) hc _ 0 (fun y hy=>hy),←Fw,ih];rw[List.range'_succ,List.flatMap_cons,List.append_assoc];all_goals rfl
theorem Fx{s:ae}{i c v:Nat}(hn:s.lJ i c v=0):s.before (i+1) c v 0= []:=by
 unfold ae.before;rw[if_neg (by omega),if_neg (fun e=>by have:=e.2.2;unfold ae.lJ at hn;rw[Nat.add_sub_cancel]at this;omega)]
theorem Fy{s:ae}{i c v:Nat}(hi:i<s.aa.length)(hn:0<s.lJ i c v):s.before (i+1) c v 0=s.before i c v (s.lJ i c v):=by
 have hA:=BC hi hn;unfold ae.before;rw[if_neg (by omega),if_pos (show 0<i+1∧v<s.kx (i+1-1) c∧0<(s.vo (i+1-1) c v).ak.length from⟨by omega,hA.hv,hn⟩),if_pos hn];all_goals rfl
theorem Good.la{s:ae}(h:Good s){c v:Nat}(hc:c<s.o5):∀(n i:Nat),i+n=s.aa.length→
  nx (gF (s.partOf c).1 (s.partOf c).2.1 v) (s.iV (s.partOf c).1) (fun p=>bh p (s.before i c v 0)) (s.la c v n i)=(List.range' i n).flatMap (fun i=>s.zK i c v)
 | 0,i,hn=>rfl
 | n+1,i,hn=>by
  have hi:i<s.aa.length:=by omega
  have ih:=h.la (v:=v) hc n (i+1) (by omega);rw[List.range'_succ,List.flatMap_cons];show nx _ _ _ (s.rL i c v++s.la c v n (i+1))=_;by_cases h0:s.lJ i c v=0
  ·have e1:s.zK i c v= []:=by unfold ae.zK;rw[h0];rfl
   unfold ae.rL;rw[if_pos h0,e1,List.nil_append];show nx _ _ (fun _=>false) (s.la c v n (i+1))=_;rw[Fx h0]at ih;exact ih
  ·have hr:s.rL i c v++s.la c v n (i+1)=s.rest c v i 0:=by
    unfold ae.rL ae.rest;rw[if_neg h0,List.drop_zero,show s.aa.length-(i+1)=n by omega]
   rw[hr,h.SY hi hc (s.lJ i c v) 0 (by omega),←Fy hi (by omega),show s.aa.length-(i+1)=n by omega,ih];all_goals rfl
theorem Good.wO{s:ae}(h:Good s){c v:Nat}(hc:c<s.o5):s.wO c v=(List.range' 0 s.aa.length).flatMap (fun i=>s.zK i c v):=by
 have:=h.la (v:=v) hc s.aa.length 0 (by omega);unfold ae.wO;rw[←this];all_goals rfl
theorem Good.SZ{s:ae}(h:Good s)(c v:Nat):∀(n i:Nat),i+n=s.aa.length→O0 (s.la c v n i)
 | 0,i,hn,e,he=>by simp[ae.la]at he
 | n+1,i,hn,e,he=>by
  rcases List.mem_append.1 he with he | he
  ·unfold ae.rL at he;split at he
   ·simp at he
   ·unfold ae.oA at he;obtain⟨k,hk,e2⟩:=List.mem_map.1 he;have hk:k<s.lJ i c v:=by simpa using hk
    cases e2;exact(vP (h.vl.r8 i c v k (BC (by omega) hk))).2.1
  ·exact h.SZ c v n (i+1) (by omega) e he
theorem Good.mf{s:ae}(h:Good s)(c v:Nat)(out:List aq):mf s c v out=out++s.wO c v:=by
 unfold Go.Hm.mf ae.wO;have e:=h.vl.DC (gF (s.partOf c).1 (s.partOf c).2.1 v) (s.iV (s.partOf c).1) c v s.aa.length 0 none out (by omega);rw[List.drop_zero]at e;rw[e];exact VZ _ _ _ (h.SZ c v _ 0 (by omega)) out
theorem Good.iN{s:ae}(h:Good s):∀(n c:Nat) (out:List aq),iN s n c out=out++(List.range' c n).flatMap (fun c=>(List.range' 0 2).flatMap fun v=>s.wO c v)
 | 0,c,out=>by simp[Go.Hm.iN]
 | n+1,c,out=>by
  show Go.Hm.iN s n (c+1) (Go.Hm.mf s c 1 (Go.Hm.mf s c 0 out))=_;rw[h.mf,h.mf,h.iN n (c+1),show List.range' c (n+1)=c::List.range' (c+1) n from rfl,List.flatMap_cons];simp[List.append_assoc,List.range'_succ]
theorem BD(n:aq)(l:List aq):∀k,(∀j,qi n l k≤j→j<k→(l.getD j default).cmp n>0)∧(0<qi n l k→(l.getD (qi n l k-1) default).cmp n≤0)
 | 0=>⟨fun j h1 h2=>by omega,fun h=>by simp[qi]at h⟩
 | k+1=>by
  unfold qi;split
  ·rename_i hc;obtain⟨h1,h2⟩:=BD n l k;refine⟨fun j j1 j2=>?_,h2⟩;by_cases hj:j=k
   ·rw[hj];exact hc
   ·exact h1 j j1 (by omega)
  ·rename_i hc;exact⟨fun j j1 j2=>by omega,fun _=>by rw[Nat.add_sub_cancel];omega⟩
theorem KW(n:aq)(l:List aq):(yZ n l).Perm (n::l):=by
 unfold yZ;rw[List.append_assoc];show(l.take (qi n l l.length)++n::l.drop (qi n l l.length)).Perm (n::l);refine List.perm_middle.trans ?_;rw[List.take_append_drop]
theorem Fz(n:aq){l:List aq}(h:l.Pairwise aq.le):(yZ n l).Pairwise aq.le:=by
 have hk:=xp n l l.length;obtain⟨h1,h2⟩:=BD n l l.length;unfold yZ;obtain⟨k,Er⟩:∃k,qi n l l.length=k:=⟨_,rfl⟩
 rw[Er]at hk h1 h2 ⊢;have Y5:∀x∈l.take k,x.le n:=fun x hx=>by
  obtain⟨j,hj,rfl⟩:=List.getElem_of_mem hx;have K8:j<k:=by simp at hj;omega
  have yo:(l.getD (k-1) default).le n:=h2 (by omega);rw[List.getElem_take];have e:l.getD (k-1) default=l[k-1]:=by rw[List.getD_eq_getElem?_getD,List.getElem?_eq_getElem (by omega)];rfl
  rw[e]at yo;by_cases L0:j=k-1
  ·subst L0;exact yo
  ·exact aq.le_trans ((List.pairwise_iff_getElem.1 h) j (k-1) (by omega) (by omega) (by omega)) yo
 have S5:∀x∈l.drop k,n.le x:=fun x hx=>by
  obtain⟨j,hj,rfl⟩:=List.getElem_of_mem hx;have K8:k+j<l.length:=by simp at hj;omega
  have:=h1 (k+j) (by omega) K8;rw[List.getElem_drop];rw[List.getD_eq_getElem?_getD,List.getElem?_eq_getElem K8]at this;refine aq.lI (fun aN=>?_);have h3:(l[k+j]).cmp n>0:=this;omega
 rw[List.append_assoc,List.pairwise_append];refine⟨h.sublist (List.take_sublist _ _),?_,fun a ha b hb=>?_⟩
 ·rw[List.singleton_append,List.pairwise_cons];exact⟨S5,h.sublist (List.drop_sublist _ _)⟩
 ·rcases List.mem_append.1 hb with hb | hb
  ·rw[List.mem_singleton]at hb;rw[hb];exact Y5 a ha
  ·exact aq.le_trans (Y5 a ha) (S5 b hb)
theorem DD(s:ae)(i c v k:Nat):∀(l:List aS) (h:Nat) (out:List aq),
  (s.um i c v k ((s.iy i c v).getD k default) (s.ev i c v k).ID h l out).Perm (s.SX i c v k h l++out)∧(out.Pairwise aq.le→(s.um i c v k ((s.iy i c v).getD k default) (s.ev i c v k).ID h l out).Pairwise aq.le)
 | [],h,out=>⟨List.Perm.refl _,fun h=>h⟩
 | y::r,h,out=>by
  unfold ae.um ae.SX;by_cases ht:bh y.aB (s.before i c v k)=true
  ·rw[if_pos ht,if_pos ht,List.nil_append];exact DD s i c v k r (h+1) out
  ·rw[if_neg ht,if_neg ht];obtain⟨h1,h2⟩:=DD s i c v k r (h+1) (yZ (s.qm i c v k ((s.iy i c v).getD k default) (s.ev i c v k).ID h y.aB) out);refine⟨h1.trans ?_,fun hs=>h2 (Fz _ hs)⟩;refine(List.Perm.append_left _ (KW _ _)).trans ?_;exact List.perm_middle
theorem Good.FI{s:ae}(h:Good s){i c v:Nat}(hi:i<s.aa.length):∀(n k:Nat) (out:List aq),k+n=s.lJ i c v→
  (s.FI i c v k ((s.vo i c v).ak.drop k) ((s.iy i c v).drop k) out).Perm ((List.range' k n).flatMap (s.evB i c v)++out)∧(out.Pairwise aq.le→(s.FI i c v k ((s.vo i c v).ak.drop k) ((s.iy i c v).drop k) out).Pairwise aq.le)
 | 0,k,out,hk=>by
  rw[IK (.inl (by unfold ae.lJ at hk;omega))];exact⟨List.Perm.refl _,fun h=>h⟩
 | n+1,k,out,hk=>by
  have b9:k<s.lJ i c v:=by omega
  have hA:=BC hi b9;have iz:=(h.HF hA).1;rw[Fg b9 (by omega)];obtain⟨h1,h2⟩:=h.FI (c:=c) (v:=v) hi n (k+1) (s.um i c v k ((s.iy i c v).getD k default) ((s.vo i c v).ak.getD k default).ID 0 ((s.vo i c v).ak.getD k default).aE out) (by omega);obtain⟨h3,h4⟩:=DD s i c v k (s.ev i c v k).aE 0 out;refine⟨h1.trans ?_,fun hs=>h2 (h4 hs)⟩;rw[List.range'_succ,List.flatMap_cons];refine(List.Perm.append_left _ h3).trans ?_;rw[←List.append_assoc];refine List.Perm.append_right _ ?_;exact List.perm_append_comm
theorem Good.Hl{s:ae}(h:Good s){i c:Nat}(hi:i<s.aa.length)(hc:c<(s.aa.getD i default).Cells.length):∀(n v:Nat) (out:List aq),v+n=s.kx i c→
  (s.Hl i c v (((s.aa.getD i default).Cells.getD c default).ai.drop v) out).Perm ((List.range' v n).flatMap (fun v=>s.zK i c v)++out)∧(out.Pairwise aq.le→(s.Hl i c v (((s.aa.getD i default).Cells.getD c default).ai.drop v) out).Pairwise aq.le)
 | 0,v,out,hk=>by
  rw[oy]at hk;rw[List.drop_eq_nil_of_le (by omega)];exact⟨List.Perm.refl _,fun h=>h⟩
 | n+1,v,out,hk=>by
  have hv:v<((s.aa.getD i default).Cells.getD c default).ai.length:=by rw[oy]at hk;omega
  rw[aF hv];obtain⟨h1,h2⟩:=h.Hl hi hc n (v+1) (s.FI i c v 0 (s.vo i c v).ak (s.iy i c v) out) (by omega);obtain⟨h3,h4⟩:=h.FI (c:=c) (v:=v) hi (s.lJ i c v) 0 out (by omega);rw[List.drop_zero,List.drop_zero]at h3 h4;refine⟨h1.trans ?_,fun hs=>h2 (h4 hs)⟩;rw[List.range'_succ,List.flatMap_cons];refine(List.Perm.append_left _ h3).trans ?_;rw[←List.append_assoc];refine List.Perm.append_right _ ?_;exact List.perm_append_comm
theorem Good.Li{s:ae}(h:Good s){i:Nat}(hi:i<s.aa.length):∀(n c:Nat) (out:List aq),c+n=(s.aa.getD i default).Cells.length→
  (s.Li i c ((s.aa.getD i default).Cells.drop c) out).Perm ((List.range' c n).flatMap (fun c=>(List.range' 0 (s.kx i c)).flatMap (fun v=>s.zK i c v))++out)∧(out.Pairwise aq.le→(s.Li i c ((s.aa.getD i default).Cells.drop c) out).Pairwise aq.le)
 | 0,c,out,hk=>by
  rw[List.drop_eq_nil_of_le (by omega)];exact⟨List.Perm.refl _,fun h=>h⟩
 | n+1,c,out,hk=>by
  have hc:c<(s.aa.getD i default).Cells.length:=by omega
  rw[aF hc];obtain⟨h1,h2⟩:=h.Li hi n (c+1) (s.Hl i c 0 ((s.aa.getD i default).Cells.getD c default).ai out) (by omega);obtain⟨h3,h4⟩:=h.Hl hi hc (s.kx i c) 0 out (by omega);rw[List.drop_zero]at h3 h4;refine⟨h1.trans ?_,fun hs=>h2 (h4 hs)⟩;rw[List.range'_succ,List.flatMap_cons];refine(List.Perm.append_left _ h3).trans ?_;rw[←List.append_assoc];refine List.Perm.append_right _ ?_;exact List.perm_append_comm
theorem Good.Po{s:ae}(h:Good s):∀(n i:Nat) (out:List aq),i+n=s.aa.length→
  (s.Po i (s.aa.drop i) out).Perm ((List.range' i n).flatMap (fun i=>(List.range' 0 (s.aa.getD i default).Cells.length).flatMap (fun c=>(List.range' 0 (s.kx i c)).flatMap (fun v=>s.zK i c v)))++out)∧(out.Pairwise aq.le→(s.Po i (s.aa.drop i) out).Pairwise aq.le)
 | 0,i,out,hk=>by
  rw[List.drop_eq_nil_of_le (by omega)];exact⟨List.Perm.refl _,fun h=>h⟩
 | n+1,i,out,hk=>by
  have hi:i<s.aa.length:=by omega
  rw[aF hi];obtain⟨h1,h2⟩:=h.Po n (i+1) (s.Li i 0 (s.aa.getD i default).Cells out) (by omega);obtain⟨h3,h4⟩:=h.Li hi (s.aa.getD i default).Cells.length 0 out (by omega);rw[List.drop_zero]at h3 h4;refine⟨h1.trans ?_,fun hs=>h2 (h4 hs)⟩;rw[List.range'_succ,List.flatMap_cons];refine(List.Perm.append_left _ h3).trans ?_;rw[←List.append_assoc];refine List.Perm.append_right _ ?_;exact List.perm_append_comm
theorem wP{α β:Type}(f g:α→List β):∀(l:List α),(l.flatMap f++l.flatMap g).Perm (l.flatMap fun a=>f a++g a)
 | []=>List.Perm.refl _
 | a::l=>by
  rw[List.flatMap_cons,List.flatMap_cons,List.flatMap_cons];have ih:=wP f g l;have e:((f a++l.flatMap f)++(g a++l.flatMap g)).Perm ((f a++g a)++(l.flatMap f++l.flatMap g)):=by
   rw[List.append_assoc,List.append_assoc];refine List.Perm.append_left _ ?_;rw[←List.append_assoc,←List.append_assoc];exact List.Perm.append_right _ List.perm_append_comm
  exact e.trans (List.Perm.append_left _ ih)
theorem oE{α β γ:Type}(f:α→β→List γ)(m:List β):∀(l:List α),(l.flatMap fun a=>m.flatMap fun b=>f a b).Perm (m.flatMap fun b=>l.flatMap fun a=>f a b)
 | []=>by
  have:(m.flatMap fun _=>([]:List γ))= []:=by induction m with
   | nil=>rfl
   | cons b m ih=>rw[List.flatMap_cons,ih];rfl
  show List.Perm [] (m.flatMap fun _=> []);rw[this]
 | a::l=>by
  rw[List.flatMap_cons];refine(List.Perm.append_left _ (oE f m l)).trans ?_;exact wP (f a) (fun b=>l.flatMap fun a=>f a b) m
theorem fM{α β:Type}{f g:α→List β} :∀ {l:List α},(∀a∈l,f a=g a)→l.flatMap f=l.flatMap g
 | [],h=>rfl
 | a::l,h=>by rw[List.flatMap_cons,List.flatMap_cons,h a (by simp),fM (fun b hb=>h b (by simp[hb]))]
theorem FA{s:ae}{i c v:Nat}(h:¬v<s.kx i c):s.zK i c v= []:=by
 have:s.lJ i c v=0:=sK (fun e=>h e.2);unfold ae.zK;rw[this];rfl
theorem Good.Y6{s:ae}(h:Good s){i c:Nat}(hi:i<s.aa.length)(hc:c<(s.aa.getD i default).Cells.length):s.kx i c≤2:=by
 rw[oy];exact(h.vl.r1.2.2 _ (av hi) _ (av hc)).1
theorem Good.two{s:ae}(h:Good s){i c:Nat}(hi:i<s.aa.length)(hc:c<(s.aa.getD i default).Cells.length):(List.range' 0 (s.kx i c)).flatMap (fun v=>s.zK i c v)=(List.range' 0 2).flatMap (fun v=>s.zK i c v):=by
 have h2:=h.Y6 hi hc;obtain⟨n,hn⟩:∃n,s.kx i c=n:=⟨_,rfl⟩
 rw[hn]at h2 ⊢;have e0:¬0<n→s.zK i c 0= []:=fun h=>FA (by rw[hn];exact h)
 have e1:¬1<n→s.zK i c 1= []:=fun h=>FA (by rw[hn];exact h)
 obtain rfl | rfl | rfl:n=0∨n=1∨n=2:=by omega
 ·simp[List.range'_succ,e0,e1]
 ·simp[List.range'_succ,e1]
 ·rfl
theorem Good.notes{s:ae}(h:Good s):wF (Go.Hm.iN s s.o5 0 [])=s.qn:=by
 obtain⟨h1,h2⟩:=h.Po s.aa.length 0 [] (by omega);rw[List.drop_zero,List.append_nil]at h1;rw[List.drop_zero]at h2;refine NQ ?_ (h2 List.Pairwise.nil);refine h1.trans ?_;rw[h.iN,List.nil_append];have e1:(List.range' 0 s.aa.length).flatMap (fun i=>(List.range' 0 (s.aa.getD i default).Cells.length).flatMap (fun c=>(List.range' 0 (s.kx i c)).flatMap (fun v=>s.zK i c v)))=
   (List.range' 0 s.aa.length).flatMap (fun i=>(List.range' 0 s.o5).flatMap (fun c=>(List.range' 0 2).flatMap (fun v=>s.zK i c v))):=by
  refine fM (fun i hi=>?_);have hi:i<s.aa.length:=by simpa using hi
  rw[h.cells _ (av hi)];refine fM (fun c hc=>?_);have hc:c<s.o5:=by simpa using hc
  exact h.two hi (by rw[h.cells _ (av hi)];exact hc)
 have e2:(List.range' 0 s.o5).flatMap (fun c=>(List.range' 0 2).flatMap fun v=>s.wO c v)=
   (List.range' 0 s.o5).flatMap (fun c=>(List.range' 0 2).flatMap fun v=>(List.range' 0 s.aa.length).flatMap (fun i=>s.zK i c v)):=by
  refine fM (fun c hc=>?_);have hc:c<s.o5:=by simpa using hc
  exact fM (fun v _=>h.wO hc)
 rw[e1,e2];refine(oE (fun i c=>(List.range' 0 2).flatMap (fun v=>s.zK i c v)) (List.range' 0 s.o5) (List.range' 0 s.aa.length)).trans ?_;have:∀(l:List Nat),(l.flatMap fun c=>(List.range' 0 s.aa.length).flatMap fun i=>(List.range' 0 2).flatMap (fun v=>s.zK i c v)).Perm (l.flatMap fun c=>(List.range' 0 2).flatMap fun v=>(List.range' 0 s.aa.length).flatMap (fun i=>s.zK i c v)):=by
  intro l;induction l with
  | nil=>exact List.Perm.refl _
  | cons c l ih=>
   rw[List.flatMap_cons,List.flatMap_cons];exact List.Perm.append (oE (fun i v=>s.zK i c v) _ _) ih
 exact this _
open Go.Proofs
theorem rS{n:Int}(h:decide (-1000≤n∧n≤1000)=true):iO n:=by
 have:=of_decide_eq_true h;exact⟨by omega,by omega⟩
theorem HG(n log kind:Int)(hs:List aS)(h1:iO n)(h2:iO log)(h3:iO kind)(h4:hs.length≤maxLen∧ ∀y∈hs,aS.wf y):(ZQ n log kind hs).wf:=
 ⟨⟨rS rfl,h1⟩,h3,⟨h2,rS rfl⟩,h4,⟨Nat.zero_le _,fun y hy=>by cases hy⟩,rS rfl,rS rfl,rS rfl,⟨Nat.zero_le _,fun y hy=>by cases hy⟩,rS rfl,rS rfl⟩
theorem O3(b:Bool):∀y∈ [(⟨⟨0,0,4⟩,b,0⟩:aS)],aS.wf y:=fun y hy=>by
 rw[List.mem_singleton]at hy;subst hy;exact⟨⟨rS rfl,rS rfl,rS rfl⟩,rS rfl⟩
theorem V1:VQ.wf:=by
 refine⟨by decide,⟨by decide,fun y hy=>?_⟩,⟨by decide,fun y hy=>?_⟩,⟨by decide,fun y hy=>by cases hy⟩,⟨by decide,fun y hy=>?_⟩⟩
 ·rw[show y=_ from List.mem_singleton.1 hy];refine⟨⟨rS rfl,rS rfl⟩,by decide,⟨rS rfl,rS rfl⟩,⟨by decide,fun z hz=>?_⟩⟩;rw[show z=_ from List.mem_singleton.1 hz];exact⟨⟨rS rfl,rS rfl⟩,rS rfl⟩
 ·rw[show y=_ from List.mem_singleton.1 hy];refine⟨⟨rS rfl,rS rfl⟩,⟨rS rfl,rS rfl,rS rfl,rS rfl,rS rfl,rS rfl,rS rfl,rS rfl⟩,rS rfl,rS rfl,rS rfl,rS rfl,rS rfl,rS rfl,rS rfl,rS rfl,by decide,⟨by decide,fun z hz=>by cases hz⟩,⟨by decide,fun z hz=>?_⟩⟩;rw[show z=_ from List.mem_singleton.1 hz];refine⟨⟨by decide,fun x hx=>by cases hx⟩,⟨by decide,fun x hx=>?_⟩⟩;rw[show x=_ from List.mem_singleton.1 hx];refine⟨⟨by decide,fun e he=>?_⟩,⟨by decide,fun e he=>by cases he⟩⟩;rcases List.mem_cons.1 he with rfl | he
  ·exact HG 4 1 1 _ (rS rfl) (rS rfl) (rS rfl) ⟨by decide,O3 true⟩
  ·rcases List.mem_cons.1 he with rfl | he
   ·exact HG 5 2 1 _ (rS rfl) (rS rfl) (rS rfl) ⟨by decide,O3 false⟩
   ·rw[show e=_ from List.mem_singleton.1 he];exact HG 6 2 2 [] (rS rfl) (rS rfl) (rS rfl) ⟨by decide,fun y hy=>by cases hy⟩
 ·rw[show y=_ from List.mem_singleton.1 hy];exact⟨rS rfl,rS rfl⟩
theorem KX:oj VQ=true:=by decide+kernel
theorem KY:Ad VQ= []:=by decide+kernel
theorem FB:Good VQ:=⟨V1,vL KX,KY⟩
theorem KZ:VQ.qn= [⟨0,1451520,60,0,0,0,⟨1,4⟩,0⟩]:=by decide+kernel
theorem HH:VQ.bf= [0,1935360]:=by decide+kernel
theorem Good.f6{s:ae}(h:Good s):JJ 6 [.agg s.enc] [] (nB true) []:=by
 have:=SS s s.o5 (h.sm.YZ h.wf);rw[show Ad s= []from h.vl]at this;exact this
theorem Good.f11{s:ae}(h:Good s):JJ 11 [.agg s.enc] [] (.dE [.p (.sl 9 (s.qn.map aq.enc)),nI 0]) []:=by
 have:=VS s s.o5 h.f6 h.R4;rw[h.notes]at this;exact this
theorem Good.f7{s:ae}(h:Good s):JJ 7 [.agg s.enc] [] (.dE [.p (.sl 1 (s.bf.map cB)),nI 0]) []:=X7 s h.f6 h.wf (by have:=h.sm.kM;omega)
theorem S6:JJ 4 [] [] (nB true) []:=by
 have K7:=FB.f11;rw[KZ]at K7;have h7:=FB.f7;rw[HH]at h7;refine JJ.intro Tryz.func4 rfl rfl rfl rfl ?_;refine⟨_,OW,?_⟩;refine⟨_,K7,?_⟩;refine⟨_,OW,?_⟩;refine⟨_,h7,?_⟩;refine⟨rfl,?_⟩;refine⟨1,fun _=>rfl,?_⟩;refine⟨(⟨0,1451520,60,0,0,0,⟨1,4⟩,0⟩:aq).enc,fun _=>⟨by decide,rfl⟩,?_⟩;refine⟨_,fun _=>qg 4,?_⟩;refine⟨2,fun _=>rfl,?_⟩;refine⟨cB 1935360,fun _=>⟨by decide,rfl⟩,?_⟩;exact⟨rfl,rfl⟩
open Go.Proofs
theorem kQ{α β:Type}{f:α→List β}{B:Nat} :∀ {l:List α},(∀a∈l,(f a).length≤B)→(l.flatMap f).length≤B*l.length
 | [],h=>Nat.zero_le _
 | a::l,h=>by
  rw[List.flatMap_cons,List.length_append,List.length_cons,Nat.mul_add,Nat.mul_one];have:=h a (by simp);have:=kQ (f:=f) (l:=l) (fun b hb=>h b (by simp[hb]));omega
theorem Jx(s:ae)(i c v k:Nat):∀(l:List aS) (h:Nat),(s.SX i c v k h l).length≤l.length
 | [],h=>Nat.le_refl _
 | y::r,h=>by
  have:=Jx s i c v k r (h+1);unfold ae.SX;rw[List.length_append,List.length_cons];split
  ·rw[List.length_nil];omega
  ·rw[List.length_singleton];omega
theorem Good.R8{s:ae}(h:Good s){i c v:Nat}(hi:i<s.aa.length):(s.zK i c v).length≤240:=by
 unfold ae.zK;by_cases h0:s.lJ i c v=0
 ·rw[h0];exact Nat.zero_le _
 ·have hA:=BC (c:=c) (v:=v) (k:=0) hi (by omega);have h20:s.lJ i c v≤20:=(h.sm.VR hA.hi hA.hc hA.hv).events;refine Nat.le_trans (kQ (B:=12) (fun k hk=>?_)) ?_
  ·have hk:k<s.lJ i c v:=by simpa using hk
   exact Nat.le_trans (Jx s i c v k _ 0) (h.sm.eve (BC hi hk)).eF
  ·rw[List.length_range'];omega
theorem Good.K1{s:ae}(h:Good s):s.qn.length≤24000:=by
 obtain⟨h1,_⟩:=h.Po s.aa.length 0 [] (by omega);rw[List.drop_zero,List.append_nil]at h1;rw[show s.qn.length=_ from h1.length_eq];refine Nat.le_trans (kQ (B:=2400) (fun i hi=>?_)) ?_
 ·have hi:i<s.aa.length:=by simpa using hi
  refine Nat.le_trans (kQ (B:=480) (fun c hc=>?_)) ?_
  ·have hc:c<(s.aa.getD i default).Cells.length:=by simpa using hc
   refine Nat.le_trans (kQ (B:=240) (fun v hv=>h.R8 hi)) ?_;rw[List.length_range'];have:=h.Y6 hi hc;omega
  ·rw[List.length_range',h.cells _ (av hi)];have:=h.VT;omega
 ·rw[List.length_range'];have:=h.sm.kM;omega
theorem BE(s:ae)(tr:cH)(st:Nat):∀(ms:List aj) (now:Int) (out:List bD),(rE s tr st now ms out).length=out.length+ms.length
 | [],now,out=>rfl
 | m::r,now,out=>by
  show(rE s tr st _ r _).length=_;rw[BE s tr st r,List.length_append,List.length_singleton,List.length_cons];omega
theorem O4(l:List Int)(hl:l.length≤1000000):JJ 14 [.p (.sl 1 (l.map cB)),.p (.sl 1 (l.map cB))] [] (nB true) []:=by
 have h2:(1000000:Nat)≤maxLen:=by decide
 have:=Uf l l (by omega)
 rwa [decide_eq_true rfl]at this
theorem O5(l:List bD)(hl:l.length≤1000000):JJ 16 [.p (.sl 10 (l.map bD.enc)),.p (.sl 10 (l.map bD.enc))] [] (nB true) []:=by
 have h2:(1000000:Nat)≤maxLen:=by decide
 have:=Uc l l (by omega)
 rwa [decide_eq_true rfl]at this
theorem O6(l:List dX)(hl:l.length≤1000000):JJ 17 [.p (.sl 4 (l.map dX.enc)),.p (.sl 4 (l.map dX.enc))] [] (nB true) []:=by
 have h2:(1000000:Nat)≤maxLen:=by decide
 have:=Ud l l (by omega)
 rwa [decide_eq_true rfl]at this
theorem O7(l:List cr)(hl:l.length≤1000000):JJ 18 [.p (.sl 9 (l.map cr.enc)),.p (.sl 9 (l.map cr.enc))] [] (nB true) []:=by
 have h2:(1000000:Nat)≤maxLen:=by decide
 have:=Ue l l (by omega)
 rwa [decide_eq_true rfl]at this
theorem O8(l:List aq)(hl:l.length≤1000000):JJ 20 [.p (.sl 9 (l.map aq.enc)),.p (.sl 9 (l.map aq.enc))] [] (nB true) []:=by
 have h2:(1000000:Nat)≤maxLen:=by decide
 have:=Uo l l (by omega)
 rwa [decide_eq_true rfl]at this
theorem Good.ctx{s:ae}(h:Good s){st:Int}(hr:iO st):∃(l:List bD) (e:Int),l.length≤1000000∧
  JJ 8 [.agg s.enc,nI st] [] (.dE [.p (.sl 10 (l.map bD.enc)),nI e]) []∧JJ 12 [.agg s.enc,nI st] [] (.dE [.p (.sl 10 (l.map bD.enc)),nI e]) []:=by
 have hp:=h.sm.parts;by_cases vX:0≤st∧st<s.bG
 ·have hn:=h.sm.o5;obtain⟨n,rfl⟩:∃n:Nat,st=n:=⟨st.toNat,by omega⟩
  have j3:n<s.o5:=by omega
  obtain⟨p,k,h1,h2,h3,h4⟩:=h.sm.part j3;have hC:=h.Y2 j3 h1 h2 h3 h4;refine⟨KD s n p k,0,?_,X8 s h.f6 n p k hC,UL s n p k hC⟩;unfold KD;rw[BE];have:=h.sm.kM;simp;omega
 ·have ho:st<0∨s.bG≤st:=by omega
  exact⟨[],2,by simp,UK s h.f6 st (by omega) (h.sm.OY hr ho),Rl s st (by omega) ho⟩
theorem Good.held{s:ae}(h:Good s)(i st:Int):∃(l:List dX) (e:Int),l.length≤1000000∧
  JJ 9 [.agg s.enc,nI i,nI st] [] (.dE [.p (.sl 4 (l.map dX.enc)),nI e]) []∧JJ 13 [.agg s.enc,nI i,nI st] [] (.dE [.p (.sl 4 (l.map dX.enc)),nI e]) []:=by
 have hp:=h.sm.parts;have hn:=h.sm.o5;by_cases hb:qV s i st
 ·exact⟨[],2,by simp,UM s h.f6 i st (by omega) hb,Rn s i st (by omega) hb⟩
 ·have iE:0≤i∧i<s.aa.length∧0≤st∧st<s.bG:=by
   unfold qV at hb;omega
  by_cases h0:i=0
  ·subst h0;exact⟨[],0,by simp,Rm s h.f6 st (by omega) h.vl.r1.1 ⟨iE.2.2.1,iE.2.2.2⟩,N1 s st (by omega) h.vl.r1.1 ⟨iE.2.2.1,iE.2.2.2⟩⟩
  ·obtain⟨n,rfl⟩:∃n:Nat,st=n:=⟨st.toNat,by omega⟩
   obtain⟨j,rfl⟩:∃j:Nat,i=j:=⟨i.toNat,by omega⟩
   have hC:=h.VW (i:=j) (st:=n) (by omega) (by omega) (by omega);refine⟨Bb s j n,0,?_,Ya s h.f6 j n hC,UN s j n hC⟩;unfold Bb;have:=za _ 0 [] (fun v hv=>(hC.eF v hv).2);have:=hC.dI;simp at*;omega
set_option maxHeartbeats 4000000 in
theorem Y7(s:ae)(i st:Int)(hw:s.wf)(j3:iO st):JJ 3 [.agg s.enc,nI i,nI st] [] (nB true) []:=by
 refine JJ.intro Tryz.func3 rfl rfl rfl rfl ?_;refine⟨_,S6,?_⟩;refine⟨_,fun _=>X1 s hw,?_⟩;have key:(bif !true then true else !oj s)=false→oj s=true:=fun h=>by simpa using h
 refine⟨nB (zo (Ad s)),fun hh=>SS s s.o5 ((vL (key hh)).YZ hw),?_⟩;refine ab (fun hh=>?_) (fun hh=>?_)
 ·refine⟨_,S6,?_⟩;exact⟨rfl,rfl⟩
 ·have hh:(bif(bif !true then true else !oj s)then true else !zo (Ad s))=false:=hh;rw[aX,aX]at hh;have hg:Good s:=by
   simp only[Bool.or_eq_false_iff,Bool.not_eq_false']at hh;exact⟨hw,vL hh.1.2,KS hh.2⟩
  obtain⟨lc,ec,hlc,h8,Wf⟩:=hg.ctx j3;obtain⟨lh,eh,hlh,h9,h13⟩:=hg.held i st;have ab4:=hg.sm.kM;have pV:=Vx s hg.f6 (by omega) (by have:=hg.sm.span;omega) (fun m hm=>⟨hw.aa.2 m hm,hg.OZ hm,(hg.vl.r5 m hm).1,by have:=hg.Fu hm;omega,hg.VU hm⟩);rw[hg.vl.Y3]at pV;have ZA:=UO s hw (by have:=hg.sm.span;omega);have P9:(s.kq s.au).length≤1000000:=by
   unfold ae.kq;rw[List.length_map];have:=hg.sm.span;omega
  obtain⟨ls,ab5⟩:∃ls,s.kq s.au=ls:=⟨_,rfl⟩
  rw[ab5]at pV ZA P9;have Zz:=Hi s hw (by omega);have h7:=hg.f7;have aN:s.bf.length≤1000000:=by rw[(qX s ab4).1];omega
  obtain⟨lt,ab6⟩:∃lt,s.bf=lt:=⟨_,rfl⟩
  rw[ab6]at h7 Zz aN;have ZB:=UR s s.o5 hg.nIn;have K7:=hg.f11;have Z2:=hg.K1;obtain⟨ln,ab7⟩:∃ln,s.qn=ln:=⟨_,rfl⟩
  rw[ab7]at K7 ZB Z2;refine⟨_,h7,?_⟩;refine⟨_,h8,?_⟩;refine⟨_,h9,?_⟩;refine⟨_,pV,?_⟩;refine⟨_,K7,?_⟩;refine⟨_,Wf,?_⟩;refine⟨_,h13,?_⟩;refine⟨_,fun _=>Zz,?_⟩;refine⟨_,fun _=>O4 lt aN,?_⟩;refine⟨_,fun _=>O5 lc hlc,?_⟩;refine⟨_,fun _=>O6 lh hlh,?_⟩;refine⟨_,fun _=>ZA,?_⟩;refine⟨_,fun _=>O7 ls P9,?_⟩;refine⟨_,fun _=>ZB,?_⟩;refine⟨_,fun _=>O8 ln (by omega),?_⟩;refine⟨?_,rfl⟩;have e1:(ec==ec)=true:=by simp
  have e2:(eh==eh)=true:=by simp
  show AV.p (.bool (bif(bif(bif(bif(bif(bif(bif(bif(bif((0:Int)==0)then true else false)then(ec==ec)else false)then true else false)then(eh==eh)else false)then true else false)then((0:Int)==0)else false)then true else false)then((0:Int)==0)else false)then true else false))=_;rw[e1,e2];all_goals rfl
end Go.Hm
