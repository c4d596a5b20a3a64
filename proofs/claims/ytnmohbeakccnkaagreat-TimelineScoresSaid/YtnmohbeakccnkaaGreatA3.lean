/- Part 3 of the proof: an abstract machine for the program, its soundness, contracts of functions, and the plain law; no conditions. -/
import Derived.Test.YtnmohbeakccnkaaGreatA2
import Derived.Laws.MakeOwn
import Derived.Orders
import Derived.Tactics
set_option linter.all false
set_option maxRecDepth 512
namespace Go.Hm
section
variable {P:Program} {T:TE} {n:Nat} {g0 g g':G} {w0 w w':World} {S:St} {a:Act} {next:Act→World→Prop} {K:St→Prop}
theorem pP{l:Loc}{x:Value}(h:aA g w (.dF l) x):x= .map (some (g.B l))∧g.K (g.B l)= .box l:=by
 cases h with
 | dF h1 h2=>subst h1;exact⟨rfl,h2⟩
theorem LQ{x:Value}(h:aA g w .fD x):x= .map none:=by cases h;rfl
theorem LR{l:Loc}{sz m:Nat}{x:Value}(h:aA g w (.bs l sz m) x):∃cap,x= .slice (some ⟨g.B l,0,none⟩) m cap∧m≤cap∧g.K (g.B l)= .box l:=by
 cases h with
 | bs h1 h2 h3=>subst h1;exact⟨_,rfl,h3,h2⟩
theorem LS{l:Loc}{sz k o:Nat}{x:Value}(h:aA g w (.bp l sz k o) x):x= .pointer (some ⟨g.B l,k*sz+o,none⟩)∧g.K (g.B l)= .box l:=by
 cases h with
 | bp h1 h2=>subst h1;exact⟨rfl,h2⟩
theorem Tt{ag:Bool}{t:TypeId}{cs:List PV}{v:Value}(dJ:T.isAgg t=ag)(h:VC w g.H ag cs v):aA g w (DP T t cs) v:=by
 unfold DP;rw[dJ];cases ag with
 | true=>obtain⟨xs,rfl,h2⟩:=h;exact .agg h2
 | false=>obtain⟨c,rfl,h2⟩:=h;exact .p h2
theorem nO(hT:bw P T){t kt et:TypeId}(ht:T.mapOf t=some (kt,et)){kc:List PV}{ks:Array Value}(hf:T.flat kt=true)(hc:T.cmp kt kc=true)(hl:kc.length=T.size kt)(hk:dg w g.H kc ks.toList){z:List PV}(hz:T.sT et=some z){x:Value}{es:List (List PV×List PV)}{xs:Array MapEntry}
  (hx:(x= .map none∧xs= #[]∧es= [])∨ ∃r c,x= .map (some r)∧w.heap[r]? =some (.map xs c)) {ag:Bool} (dJ:T.isAgg et=ag) (hE:wS w g.H ag es xs.toList) (ha:gP kc es) (ok:Bool):
  ∃(b:Bool) (cs:List PV) (v:Value),(match b with | true=>dS kc es=some cs | false=>dS kc es=none∧cs=z)∧aA g w (DP T et cs) v∧
   (Instr.lookup t x (.agg ks) ok).run P w= .ok (if ok then .tuple #[v,.bool b]else v) w:=by
 have hu:=Ay hT ht;have LU:ks.size=T.size kt:=by have:=hk.1;simp at this;omega
 have JT:=tz (P:=P) (w:=w) hT hf LU;have LV:=vV (P:=P) (w:=w) (g:=g) (ag:=ag) hT hf hc hk ha hE;obtain⟨zv,Pa,_,hzr⟩:=Az (P:=P) (g:=g) (w:=w) hT hz;rcases LV with⟨h1,h2⟩ | ⟨j,e,h1,h2,h3⟩
 ·refine⟨false,z,zv,⟨(uT h1).1,rfl⟩,hzr,?_⟩;rcases hx with⟨rfl,rfl,_⟩ | ⟨r,c,rfl,hh⟩
  ·unfold Instr.lookup;simp only[Sem.run_bind,bl hu,Result.andThen_ok,Sem.run_pure,JT,h2,Pa]
  ·unfold Instr.lookup;simp only[Sem.run_bind,bl hu,Result.andThen_ok,Sem.run_pure,MapKept.run_getObj_map hh,JT,h2,Pa]
 ·obtain⟨y,k1,k2,k3,k4⟩:=uS h1;have hv:=(hE.2 j y e k1 h2).2;refine⟨true,y.2,e.val,k3,Tt dJ hv,?_⟩;rcases hx with⟨rfl,rfl,_⟩ | ⟨r,c,rfl,hh⟩
  ·simp at h2
  ·unfold Instr.lookup;simp only[Sem.run_bind,bl hu,Result.andThen_ok,Sem.run_pure,MapKept.run_getObj_map hh,JT,h3]
theorem look_ok(hT:bw P T)(hs:bR T n g0 w0 S g a w){c:bq}(hv:c.valid a.tmps){o:Oper}{t:TypeId}{x y:Operand}(ho:o.op= .lookup t x y false):ib P o a w g (jy T S t (bO T S c t x) (bO T S c 0 y)):=by
 have hX:=bN hT hs hv t x;have hY:=bN hT hs hv 0 y;unfold jy;split
 ·rename_i kt et ht;split
  ·rename_i kc hk;rw[hk]at hY;obtain⟨ks,W4,LU⟩:=aA.jN hY;split
   ·rename_i hb;simp only[Bool.and_eq_true]at hb;obtain⟨hf,hc,hl⟩:=hb;have hl:=beq_true.1 hl;split
    ·rename_i z hz;split
     ·rename_i l hm;rw[hm]at hX;obtain⟨ex,hK⟩:=pP hX;split
      ·rename_i es hb;obtain⟨_,hH,xs,agp,hh,hE⟩:=hs.boxes l _ hb;split
       ·rename_i dJ;rintro cs ⟨ha,b,sb⟩;obtain⟨b',Af,v,h1,h2,h3⟩:=nO (P:=P) (w:=w) (g:=g) hT ht hf hc hl LU hz (x:=a.eval x) (es:=es) (xs:=xs) (.inr ⟨_,agp,ex,hh⟩) dJ hE ha false;have e:Af=cs:=by
         cases b<;>cases b'<;>simp only at h1 sb
         ·exact h1.2.trans sb.2.symm
         ·rw[sb.1]at h1;cases h1
         ·rw[h1.1]at sb;cases sb
         ·rw[h1]at sb;exact Option.some.inj sb
        subst e;exact⟨v,by simp only[execOp,ho,W4,Sem.run_bind,h3,Result.andThen_ok,Sem.run_pure];rfl,h2⟩
       ·trivial
      ·trivial
     ·trivial
    ·trivial
   ·trivial
  ·trivial
 ·trivial
theorem vW{t:TypeId}{m k:AV} :jy T S t m k= .no∨ ∃kt et kc z l es,T.mapOf t=some (kt,et)∧k= .agg kc∧(T.flat kt&&(T.cmp kt kc&&Nat.beq kc.length (T.size kt)))=true∧T.sT et=some z∧m= .dF l∧S.bx l=some (.mp false es)∧T.isAgg et=false:=by
 cases hm:T.mapOf t with
 | none=>left;unfold jy;rw[hm]
 | some p=>
  obtain⟨kt,et⟩:=p;cases k<;>try (left;unfold jy;rw[hm];done)
  rename_i kc;cases hb:(T.flat kt&&(T.cmp kt kc&&Nat.beq kc.length (T.size kt)))with
  | false=>left;unfold jy;simp only[hm,hb]
  | true=>
   cases hz:T.sT et with
   | none=>left;unfold jy;simp only[hm,hb,hz]
   | some z=>
    cases m<;>try (left;unfold jy;simp only[hm,hb,hz];done)
    rename_i l;cases hx:S.bx l with
    | none=>left;unfold jy;simp only[hm,hb,hz,hx]
    | some bb=>
     cases bb<;>try (left;unfold jy;simp only[hm,hb,hz,hx];done)
     rename_i ag es;cases ag with
     | true=>left;unfold jy;simp only[hm,hb,hz,hx]
     | false=>
      cases dJ:T.isAgg et with
      | true=>left;unfold jy;simp only[hm,hb,hz,hx,dJ]
      | false=>exact .inr ⟨kt,et,kc,z,l,es,rfl,rfl,hb,hz,rfl,hx,dJ⟩
theorem xZ{t:TypeId}{kt et:TypeId}{kc z:List PV}{l:Loc}{es:List (List PV×List PV)}(hm:T.mapOf t=some (kt,et))(hb:(T.flat kt&&(T.cmp kt kc&&Nat.beq kc.length (T.size kt)))=true)(hz:T.sT et=some z)(hx:S.bx l=some (.mp false es))(dJ:T.isAgg et=false):
  jy T S t (.dF l) (.agg kc)= .Ae (fun cs=>gP kc es∧ ∃b:Bool,match b with | true=>dS kc es=some cs | false=>dS kc es=none∧cs=z) (fun cs=>DP T et cs):=by
 unfold jy;simp only[hm,hb,hz,hx,dJ];rfl
theorem LW{t:TypeId}{m k:AV} :(jy T S t m k).Se S:=by
 rcases vW (T:=T) (S:=S) (t:=t) (m:=m) (k:=k)with h | ⟨kt,et,kc,z,l,es,hm,rfl,hb,hz,rfl,hx,dJ⟩
 ·rw[h];trivial
 ·rw[xZ hm hb hz hx dJ];intro cs;refine ke ?_;unfold DP;rw[dJ];cases cs with
  | nil=>rfl
  | cons c r=>
   cases r with
   | nil=>rfl
   | cons _ _=>rfl
theorem JU{agj:St}{t:TypeId}{m k:AV}(hB:∀l b,S.bx l=some b→agj.bx l=some b)(h:jy T S t m k≠ .no):jy T agj t m k=jy T S t m k:=by
 rcases vW (T:=T) (S:=S) (t:=t) (m:=m) (k:=k)with h1 | ⟨kt,et,kc,z,l,es,hm,rfl,hb,hz,rfl,hx,dJ⟩
 ·exact absurd h1 h
 ·rw[xZ hm hb hz hx dJ,xZ hm hb hz (hB _ _ hx) dJ]
theorem B2(hT:bw P T)(hs:bR T n g0 w0 S g a w){o:Oper}{t:TypeId}{x y:Operand}{ok:Bool}(ho:o.op= .lookup t x y ok)(h:jM T S o.dst t (bO T S [] t x) (bO T S [] 0 y) ok K)(hd:∀e,o.dst=some e→e<n)(hn:Rest T n g0 w0 K next){Q:Exit→Act→World→Prop} :o.wp P a w next Q:=by
 have hX:=bN hT hs (c:= []) (by intro e he;cases he) t x;have hY:=bN hT hs (c:= []) (by intro e he;cases he) 0 y;unfold jM at h;split at h
 ·rename_i kt et ht;split at h
  ·rename_i kc hk;rw[hk]at hY;obtain⟨ks,W4,LU⟩:=aA.jN hY;cases hb:(T.flat kt&&(T.cmp kt kc&&Nat.beq kc.length (T.size kt)))with
   | false=>rw[hb]at h;exact h.elim
   | true=>
    rw[hb]at h;simp only[cond_true]at h;simp only[Bool.and_eq_true]at hb;obtain⟨hf,hc,hl⟩:=hb;have hl:=beq_true.1 hl;split at h
    ·rename_i z hz;have fin:∀(b:Bool) (cs:List PV) (v:Value),bT S o.dst (bif ok then .dE [DP T et cs,.p (.bool b)]else DP T et cs) K→aA g w (DP T et cs) v→(Instr.lookup t (a.eval x) (.agg ks) ok).run P w= .ok (if ok then .tuple #[v,.bool b]else v) w→o.wp P a w next Q:=by
      intro b cs v hp hv hr;refine cW (x:=if ok then .tuple #[v,.bool b]else v) (by simp only[execOp,ho,W4,Sem.run_bind,hr,Result.andThen_ok,Sem.run_pure]) (gy hp hs hd ?_ hn);cases ok with
      | false=>exact hv
      | true=>
       refine .dE rfl (fun j u x hu hx=>?_)
       match j with
       | 0=>simp at hu hx;subst hu;subst hx;exact hv
       | 1=>simp at hu hx;subst hu;subst hx;exact .p (.bool b)
       | j+2=>simp at hu
     split at h
     ·rename_i hm;rw[hm]at hX;have ex:=LQ hX;obtain⟨b,cs,v,h1,h2,h3⟩:=nO (P:=P) (w:=w) (g:=g) hT ht hf hc hl LU hz (x:=a.eval x) (es:= []) (xs:= #[]) (.inl ⟨ex,rfl,rfl⟩) rfl ⟨rfl,by simp⟩ (by intro e he;simp at he) ok;cases b with
      | true=>cases h1
      | false=>
       obtain⟨_,rfl⟩:=h1;exact fin _ _ _ h h2 h3
     ·rename_i l hm;rw[hm]at hX;obtain⟨ex,hK⟩:=pP hX;split at h
      ·rename_i ag es hb;obtain⟨_,hH,xs,c,hh,hE⟩:=hs.boxes l _ hb;have key:T.isAgg et=ag→(gP kc es∧ ∃(b:Bool) (cs:List PV),(match b with | true=>dS kc es=some cs | false=>dS kc es=none∧cs=z)∧bT S o.dst (bif ok then .dE [DP T et cs,.p (.bool b)]else DP T et cs) K)→o.wp P a w next Q:=by
        rintro dJ ⟨ha,b,cs,sb,hp⟩;obtain⟨b',Af,v,h1,h2,h3⟩:=nO (P:=P) (w:=w) (g:=g) hT ht hf hc hl LU hz (x:=a.eval x) (es:=es) (xs:=xs) (.inr ⟨_,c,ex,hh⟩) dJ hE ha ok;have e:b'=b∧Af=cs:=by
         cases b<;>cases b'<;>simp only at h1 sb
         ·exact⟨rfl,h1.2.trans sb.2.symm⟩
         ·rw[sb.1]at h1;cases h1
         ·rw[h1.1]at sb;cases sb
         ·rw[h1]at sb;exact⟨rfl,Option.some.inj sb⟩
        obtain⟨rfl,rfl⟩:=e;exact fin _ _ _ hp h2 h3
       split at h
       ·rename_i dJ;exact key dJ h
       ·rename_i dJ;exact key dJ h
       ·exact h.elim
      ·exact h.elim
     ·rename_i ag es hm;rw[hm]at hX;obtain⟨b0,c,xs,ex,hH,hh,hE⟩:∃b0 c xs,a.eval x= .map (some b0)∧0<g.H b0∧w.heap[b0]? =some (.map xs c)∧wS w g.H ag es xs.toList:=by
       have hX:aA g w (.fI ag es) (a.eval x):=hX;generalize a.eval x=z at hX;cases hX with
       | fI h1 h2 h3=>exact⟨_,_,_,rfl,h1,h2,h3⟩
      have key:T.isAgg et=ag→(gP kc es∧ ∃(b:Bool) (cs:List PV),(match b with | true=>dS kc es=some cs | false=>dS kc es=none∧cs=z)∧bT S o.dst (bif ok then .dE [DP T et cs,.p (.bool b)]else DP T et cs) K)→o.wp P a w next Q:=by
       rintro dJ ⟨ha,b,cs,sb,hp⟩;obtain⟨b',Af,v,h1,h2,h3⟩:=nO (P:=P) (w:=w) (g:=g) hT ht hf hc hl LU hz (x:=a.eval x) (es:=es) (xs:=xs) (.inr ⟨_,c,ex,hh⟩) dJ hE ha ok;have e:b'=b∧Af=cs:=by
        cases b<;>cases b'<;>simp only at h1 sb
        ·exact⟨rfl,h1.2.trans sb.2.symm⟩
        ·rw[sb.1]at h1;cases h1
        ·rw[h1.1]at sb;cases sb
        ·rw[h1]at sb;exact⟨rfl,Option.some.inj sb⟩
       obtain⟨rfl,rfl⟩:=e;exact fin _ _ _ hp h2 h3
      split at h
      ·rename_i dJ;exact key dJ h
      ·rename_i dJ;exact key dJ h
      ·exact h.elim
     ·exact h.elim
    ·exact h.elim
  ·exact h.elim
 ·exact h.elim
structure HR(w:World)(b:Nat)(o:Obj)(w':World):Prop where
 os:w'.os=w.os
 tape:w'.tape=w.tape
 output:w'.output=w.output
 size:w'.heap.size=w.heap.size
 block:w'.heap[b]? =some o
 other:∀c,c≠b→w'.heap[c]? =w.heap[c]?
 fz:∀a,w'.frozen? a=w.frozen? a
theorem AA{l:Loc}{o:Obj}(hf:eW g w)(hK:g.K (g.B l)= .box l)(hH:g.H (g.B l)=0)(hw:HR w (g.B l) o w'):j8 (fun e=>e= .box l) g w g w' where
 os:=hw.os
 tape:=hw.tape
 output:=hw.output
 size:=by rw[hw.size];exact Nat.le_refl _
 same b hb hx:=⟨hw.other b (fun e=>hx (by rw[e];exact hK)),rfl,rfl⟩
 ge:=⟨⟨fun _=>Nat.le_refl _,fun b i hi=>by
  have dA:b≠g.B l:=fun e=>by rw[e,hH]at hi;omega
  exact World.cell?_of_block (w:=w) (a:=⟨b,i,none⟩) (hw.other b dA),fun b xs c h0 hm=>(hw.other b (fun e=>by rw[e,hH]at h0;omega)).trans hm⟩,fun age m5=>⟨rfl,m5⟩⟩
 fresh b hb:=hf b (by rw[←hw.size];exact hb)
 fz a _:=hw.fz a
theorem bR.reset(hs:bR T n g0 w0 S g a w){l:Loc}{b:er}(hb:S.bx l=some b)(fE:S.aJ=false)(hH:g.H (g.B l)=0){o:Obj}(hw:HR w (g.B l) o w'){b':er}(mi:iB T g w' l b'):bR T n g0 w0 (S.bK l b') g a w':=by
 have hK:=(hs.boxes l b hb).gV;have hc:=AA hs.fresh hK hH hw;have Sf:∀t l,eu (S.get t)=some l→False:=by
  intro t l e;have:=(hs.aJ t l e).1;rw[fE]at this;cases this
 exact {
  defers:=hs.defers
  size:=hs.size
  bH:=fun t=>(hs.bH t).jq hc (by simp) (fun l he=>(Sf _ _ he).elim) (fun b hb=>(hs.fresh b hb).2)
  boxes:=fun m c hm=>by
   rw[St.cM]at hm;split at hm
   ·rename_i e;subst e;cases hm;exact mi
   ·rename_i dA;exact(hs.boxes m c hm).jq hc (fun e=>dA (by injection e with e;exact e.symm)) (fun _ e=>by cases e)
  fresh:=hc.fresh
  dc:=hs.dc
  aJ:=fun t l e=>(Sf _ _ e).elim
  dm:=hs.dm
  de:=hs.de
  live:=fun k hk=>by
   rw[St.cM];split
   ·exact⟨_,rfl⟩
   ·exact hs.live k hk
  frame:=hc.frame (by simp) hs.frame}
theorem Gf{r:Nat}{es:Array MapEntry}{c:Nat}(h:w.heap[r]? =some (.map es c))(zF:Array MapEntry)(agp:Nat)(ad:Addr):({w with heap:=w.heap.setIfInBounds r (.map zF agp)} :World).frozen? ad=w.frozen? ad:=by
 have aN:r<w.heap.size:=(Array.getElem?_eq_some_iff.1 h).1;unfold World.frozen?;by_cases e:ad.block=r
 ·have e1:({w with heap:=w.heap.setIfInBounds r (.map zF agp)} :World).heap[ad.block]? =some (.map zF agp):=by rw[e];exact(MapKept.heap_set h).1
  have e2:w.heap[ad.block]? =some (.map es c):=by rw[e];exact h
  rw[e1,e2]
 ·have e1:({w with heap:=w.heap.setIfInBounds r (.map zF agp)} :World).heap[ad.block]? =w.heap[ad.block]? :=(MapKept.heap_set h).2 _ e;rw[e1]
theorem JV{r:Nat}{es:Array MapEntry}{c:Nat}(h:w.heap[r]? =some (.map es c))(zF:Array MapEntry)(agp:Nat):HR w r (.map zF agp) {w with heap:=w.heap.setIfInBounds r (.map zF agp)} where
 os:=rfl
 tape:=rfl
 output:=rfl
 size:=by simp
 block:=(MapKept.heap_set h).1
 other b hb:=(MapKept.heap_set h).2 b hb
 fz:=Gf h zF agp
theorem LX{t:TypeId}{v:AV}{x:Value}{vc:List PV}(h:S7 T t v=some vc)(hx:cU g w v x):VC w g.H (T.isAgg t) vc x:=by
 unfold S7 at h;cases dJ:T.isAgg t with
 | true=>
  rw[dJ]at h;simp only[cond_true]at h;split at h
  ·cases h;obtain⟨xs,rfl,hc⟩:=aA.jN hx;exact⟨xs,rfl,hc⟩
  ·cases h
 | false=>
  rw[dJ]at h;simp only[cond_false]at h;split at h
  ·rename_i c hc;cases h;exact⟨c,rfl,BP hx hc⟩
  ·cases h
theorem Gg(hT:bw P T){t kt et:TypeId}(ht:T.mapOf t=some (kt,et)){kc:List PV}{ks:Array Value}(hf:T.flat kt=true)(hc:T.cmp kt kc=true)(hl:kc.length=T.size kt)(hk:dg w g.H kc ks.toList){es:List (List PV×List PV)}{xs:Array MapEntry}{r c:Nat}
  (hh:w.heap[r]? =some (.map xs c)) {ag:Bool} (hE:wS w g.H ag es xs.toList) (ha:gP kc es) {vc:List PV} {v:Value} (hv:VC w g.H ag vc v):
  ∃(Gh:Array MapEntry) (agp:Nat),(Instr.mapUpdate t (.map (some r)) (.agg ks) v).run P w= .ok () {w with heap:=w.heap.setIfInBounds r (.map Gh agp)} ∧wS w g.H ag (o6 kc vc es) Gh.toList:=by
 have hu:=Ay hT ht;have LU:ks.size=T.size kt:=by have:=hk.1;simp at this;omega
 have JT:=tz (P:=P) (w:=w) hT hf LU;have LV:=vV (P:=P) (w:=w) (g:=g) (ag:=ag) hT hf hc hk ha hE;have hkv:VC w g.H true kc (.agg ks):=⟨ks,rfl,hk⟩;rcases LV with⟨h1,h2⟩ | ⟨j,e,h1,h2,h3⟩
 ·refine⟨xs.push {key:= .agg ks,val:=v,born:=c},c+1,by simp only[Instr.mapUpdate,Sem.run_bind,bl hu,Result.andThen_ok,MapKept.run_getObj_map hh,JT,h2,MapKept.run_setObj_map _ hh],?_⟩;rw[(uT h1).2 vc];refine⟨by simp[hE.1],fun i y z hy hz=>?_⟩;simp only[Array.toList_push]at hz;by_cases hi:i<es.length
  ·rw[List.getElem?_append_left hi]at hy;rw[List.getElem?_append_left (by rw[←hE.1];exact hi)]at hz;exact hE.2 i y z hy hz
  ·rw[List.getElem?_append_right (by omega)]at hy;rw[List.getElem?_append_right (by rw[←hE.1];omega),←hE.1]at hz;generalize i-es.length=q at hy hz;cases q with
   | zero=>simp at hy hz;subst hy;subst hz;exact⟨hkv,hv⟩
   | succ q=>simp at hy
 ·obtain⟨y,k1,k2,k3,k4⟩:=uS h1;obtain⟨⟨os,Lc,ho2⟩,_⟩:=hE.2 j y e k1 h2;rw[k2]at ho2;have Sj:∀p∈kc,sa p=true:=by
   obtain⟨b,hb⟩:=ha y (List.mem_of_getElem? k1);exact tx hb
  have AB:os=ks:=LO Sj ho2 hk;subst AB;have hxj:xs[j]? =some e:=by rw[←Array.getElem?_toList];exact h2
  have W5:(Instr.keyThatStays e.key (.agg os)).run P w= .ok (.agg os) w:=by
   rw[Lc];unfold Instr.keyThatStays;rw[LP Sj hk 9999];simp
  refine⟨xs.modify j fun e=> {e with key:= .agg os,val:=v},c,by simp only[Instr.mapUpdate,Sem.run_bind,bl hu,Result.andThen_ok,MapKept.run_getObj_map hh,JT,h3,hxj,Option.map_some,Option.getD_some,W5,MapKept.run_setObj_map _ hh],?_⟩;rw[k4 vc];refine⟨by simp[hE.1],fun i agt z hy hz=>?_⟩;rw[List.getElem?_set]at hy;rw[Array.getElem?_toList,Array.getElem?_modify]at hz;by_cases hi:j=i
  ·subst hi;have aN:j<es.length:=(List.getElem?_eq_some_iff.1 k1).1;simp only[if_true,aN]at hy;simp only[if_true,hxj,Option.map_some,Option.some.injEq]at hz;cases hy;subst hz;exact⟨hkv,hv⟩
  ·rw[if_neg hi]at hy;rw[if_neg hi]at hz;exact hE.2 i agt z hy (by rw[Array.getElem?_toList];exact hz)
theorem B3(hT:bw P T)(hs:bR T n g0 w0 S g a w){o:Oper}{t:TypeId}{x y z:Operand}(ho:o.op= .mapUpdate t x y z)(cE:o.dst=none)(h:mr T S t (bO T S [] t x) (bO T S [] 0 y) (bO T S [] 0 z) K)(hn:Rest T n g0 w0 K next){Q:Exit→Act→World→Prop} :o.wp P a w next Q:=by
 have hX:=bN hT hs (c:= []) (by intro e he;cases he) t x;have hY:=bN hT hs (c:= []) (by intro e he;cases he) 0 y;have hZ:=bN hT hs (c:= []) (by intro e he;cases he) 0 z;unfold mr at h;cases fE:S.aJ with
 | true=>rw[fE]at h;exact h.elim
 | false=>
 rw[fE]at h;simp only[cond_false]at h;split at h
 ·rename_i kt et ht;split at h
  ·rename_i kc hk;rw[hk]at hY;obtain⟨ks,W4,LU⟩:=aA.jN hY;split at h
   ·rename_i vc Zh;have hv:=LX Zh hZ;cases hb:(T.flat kt&&(T.cmp kt kc&&Nat.beq kc.length (T.size kt)))with
    | false=>rw[hb]at h;exact h.elim
    | true=>
     rw[hb]at h;simp only[cond_true]at h;simp only[Bool.and_eq_true]at hb;obtain⟨hf,hc,hl⟩:=hb;have hl:=beq_true.1 hl;split at h
     ·rename_i l hm;rw[hm]at hX;obtain⟨ex,hK⟩:=pP hX;split at h
      ·rename_i ag es hb;obtain⟨_,hH,xs,c,hh,hE⟩:=hs.boxes l _ hb;have key:T.isAgg et=ag→(gP kc es∧ ∃zF,o6 kc vc es=zF∧K (S.bK l (.mp ag zF)))→o.wp P a w next Q:=by
        rintro dJ ⟨ha,zF,rfl,hk⟩;rw[dJ]at hv;obtain⟨Gh,agp,hr,adF⟩:=Gg (P:=P) (w:=w) (g:=g) hT ht hf hc hl LU hh hE ha hv;refine jO (w':= {w with heap:=w.heap.setIfInBounds (g.B l) (.map Gh agp)}) (by simp only[execOp,ho,ex,W4,Sem.run_bind,hr,Result.andThen_ok,Sem.run_pure]) ?_;rw[cE];have hw:=JV hh Gh agp;have tq:=AA hs.fresh hK hH hw;exact hn _ _ _ _ hk (hs.reset hb fE hH hw ⟨hK,hH,Gh,agp,hw.block,adF.ext tq.ge.ext⟩)
       split at h
       ·rename_i dJ;exact key dJ h
       ·rename_i dJ;exact key dJ h
       ·exact h.elim
      ·exact h.elim
     ·exact h.elim
   ·exact h.elim
  ·exact h.elim
 ·exact h.elim
theorem uU(w:World)(es:Array MapEntry)(c:Nat)(a:Addr):(w.alloc (.map es c)).frozen? a=w.frozen? a:=by
 unfold World.frozen?;by_cases h:a.block=w.heap.size
 ·have e1:(w.alloc (.map es c)).heap[a.block]? =some (.map es c):=by rw[h];exact jc w _
  have e2:w.heap[a.block]? =none:=Array.getElem?_eq_none (by omega);rw[e1,e2]
 ·have e1:(w.alloc (.map es c)).heap[a.block]? =w.heap[a.block]? :=by
   show(w.heap.push _)[a.block]? =_;rw[Array.getElem?_push,if_neg h]
  rw[e1]
theorem zR(hT:bw P T)(hs:bR T n g0 w0 S g a w){o:Oper}{t:TypeId}(ho:o.op= .makeMap t none)(h:lM T S o.dst t K)(hd:∀e,o.dst=some e→e<n)(hn:Rest T n g0 w0 K next){Q:Exit→Act→World→Prop} :o.wp P a w next Q:=by
 unfold lM at h;split at h
 ·rename_i d kt et cE ht;split at h
  ·rename_i hb;obtain⟨hl,hk⟩:=bP h;have cn:(execOp a.eval o).run P w= .ok (.value (.map (some w.heap.size))) (w.alloc (.map #[] 0)):=by
    simp[execOp,ho,Instr.makeMap]
   refine cW cn ?_;obtain⟨g',gu,hp⟩:=hs.kb hb (.map #[] 0) (uU w _ _) (.mp (T.isAgg et) []) (fun g' hH hK hB oN hc=>
    ⟨by rw[hB];exact hK,by rw[hB,hH];simp,#[],0,by rw[hB];exact jc w _,rfl,by simp⟩)
   obtain⟨e1,e2⟩:=jm hp;have e1:w.heap.size=g'.B (.own d):=by simpa using e1
   rw[cE];exact hn ((S.bK (.own d) (.mp (T.isAgg et) [])).put d (.dF (.own d))) _ _ _ hk (gu.put (hd d cE) hl (.of (.dF e1.symm (by rw[e1];exact e2))) (fun s sz rows e=>by cases e) (fun l e=>by cases e) (fun sz rows e=>by cases e) (fun s wt v' e=>by cases e))
  ·exact h.elim
 ·exact h.elim
theorem LY(hT:bw P T){t e:TypeId}(h:T.elem t=some e):P.underlying t=some (.slice e):=by
 unfold TE.elem at h;split at h
 ·rename_i hh;cases h;exact ga hT hh
 ·cases h
theorem Gi(z:Array Value)(m:Nat)(hz:1≤z.size):(madeCells z (m*z.size)).toList=(List.replicate m z.toList).flatten:=by
 apply List.ext_getElem?;intro j;have LZ:∀r∈List.replicate m z.toList,r.length=z.size:=fun r hr=>by rw[List.eq_of_mem_replicate hr];simp
 by_cases hj:j<m*z.size
 ·have hq:j/z.size<m:=Nat.div_lt_of_lt_mul (by rw[Nat.mul_comm];exact hj);have hm:j%z.size<z.size:=Nat.mod_lt _ (by omega);have h1:(List.replicate m z.toList)[j/z.size]? =some z.toList:=by rw[List.getElem?_replicate,if_pos hq]
  have h2:=gr LZ h1 hm;have e:j/z.size*z.size+j%z.size=j:=by rw[Nat.mul_comm];exact Nat.div_add_mod j z.size
  rw[e]at h2;rw[h2,Array.getElem?_toList,Array.getElem?_toList];unfold madeCells;rw[Array.getElem?_map];have hrg:(Array.range (m*z.size))[j]? =some j:=by rw[Array.getElem?_eq_getElem (by rw[Array.size_range];exact hj),Array.getElem_range]
  rw[hrg];show some (z[j%z.size]!)=z[j%z.size]?;rw[Array.getElem?_eq_getElem hm,getElem!_pos z _ hm]
 ·rw[List.getElem?_eq_none (by rw[Array.length_toList,size_madeCells];omega),List.getElem?_eq_none (by rw[cd LZ,List.length_replicate];omega)]
theorem dg.rep{H:Nat→Nat}{cs:List PV}{xs:List Value}(h:dg w H cs xs):∀m:Nat,dg w H (List.replicate m cs).flatten (List.replicate m xs).flatten
 | 0=>⟨by simp,by simp⟩
 | m+1=>by
  rw[List.replicate_succ,List.replicate_succ,List.flatten_cons,List.flatten_cons];exact h.append (h.rep m)
theorem wU(hT:bw P T)(hs:bR T n g0 w0 S g a w){o:Oper}{t:TypeId}{x y:Operand}(ho:o.op= .makeSlice t x y)(h:g8 T S o.dst t (isZero x) (bO T S [] 3 x) (bO T S [] 3 y) K)(hd:∀e,o.dst=some e→e<n)(hn:Rest T n g0 w0 K next){Q:Exit→Act→World→Prop} :o.wp P a w next Q:=by
 have hX:=bN hT hs (c:= []) (by intro e he;cases he) 3 x;have hY:=bN hT hs (c:= []) (by intro e he;cases he) 3 y;unfold g8 at h;split at h
 ·rename_i d e cE oM;cases hb:Nat.ble 1 (T.bytes e)with
  | false=>rw[hb]at h;exact h.elim
  | true=>
   rw[hb]at h;simp only[cond_true]at h;have hb:=Nat.le_of_ble_eq_true hb;obtain⟨ie,fQ⟩:∃ie,T e=some ie:=by
    cases hx:T e with
    | none=>simp[TE.bytes,hx]at hb
    | some i=>exact⟨i,rfl⟩
   have WZ:T.bytes e=ie.bytes:=by simp[TE.bytes,fQ]
   have BN:T.size e=ie.size:=by simp[TE.size,fQ]
   rw[WZ]at h hb;rw[BN]at h;have hu:=LY hT oM;obtain⟨ti,z,k1,k2,k3,k4,k5,k6,k7⟩:=hT.info e ie fQ;split at h
   ·rename_i c hc;rw[hc]at hY;have ey:=(aA.eg hY).jl;have Sk:∀m:Nat,(m:Int)*(ie.bytes:Int)≤140737488355328→m*ie.bytes≤140737488355328:=fun m hm=>by
     rw[←Int.natCast_mul]at hm;omega
    split at h
    ·rename_i hz;split at h
     case h_2=>exact h.elim
     obtain⟨⟨h0,h1⟩,h2⟩:=h;have ex:a.eval x= .int .i64 0:=by
      unfold isZero at hz;split at hz
      ·rfl
      ·cases hz
     obtain⟨m,rfl⟩:∃m:Nat,c=m:=⟨c.toNat,by omega⟩
     have h1i:=h1;have h1:=Sk m h1;have hm:m≤140737488355328:=Nat.le_trans (Nat.le_mul_of_pos_right _ hb) h1;have V6:((ti.bytes:Nat):Int)*(m:Int)≤281474976710656:=by
      rw[k3,Int.mul_comm];exact Int.le_trans h1i (by decide)
     have hr:=run_make (P:=P) w t e ti z hu k1 k5 .i64 .i64 0 (m:Int) (by omega) (by omega) V6 (by omega);simp only[Int.toNat_zero,Int.toNat_natCast]at hr;refine cW (x:= .slice (some ⟨w.heap.size,0,none⟩) 0 m) (w':=w.alloc (.cells (madeCells z.cells (m*ti.size)) e)) (by simp only[execOp,ho,ex,ey,Sem.run_bind,hr,Result.andThen_ok,Sem.run_pure]) ?_;rw[cE];have tq:=qD hs.fresh (.cells (madeCells z.cells (m*ti.size)) e) (Go.RowKit.frozen?_alloc_cells w _ _) 0 (.cw (.slot d)) g.B (fun _ _=>rfl);refine my h2 (hs.grow tq (fun k=>lS hs.fresh (by simp) _)) (hd d cE) (.inr ⟨w.heap.size,m,_,e,rfl,jc w _,by simp,by unfold maxLen;omega,by rw[size_madeCells,k2],by simp,⟨by simp,by simp⟩,by simp[G.new],by simp[G.new]⟩) hn
    ·split at h
     ·rename_i c agn ags LJ adH ri;rw[LJ]at hX;have ex:=(aA.eg hX).jl;obtain⟨rfl,⟨h0,h1⟩,m,rfl,h2⟩:=h;obtain⟨hl,hk⟩:=bP h2;have h1i:=h1;have h1:=Sk m h1;have hm:m≤140737488355328:=Nat.le_trans (Nat.le_mul_of_pos_right _ hb) h1;have V6:((ti.bytes:Nat):Int)*(m:Int)≤281474976710656:=by
       rw[k3,Int.mul_comm];exact Int.le_trans h1i (by decide)
      have hr:=run_make (P:=P) w t e ti z hu k1 k5 .i64 .i64 (m:Int) (m:Int) (by omega) (by omega) V6 (by omega);simp only[Int.toNat_natCast]at hr;refine cW (x:= .slice (some ⟨w.heap.size,0,none⟩) m m) (w':=w.alloc (.cells (madeCells z.cells (m*ti.size)) e)) (by simp only[execOp,ho,ex,ey,Sem.run_bind,hr,Result.andThen_ok,Sem.run_pure]) ?_;obtain⟨v,hv1,V7,_⟩:=Az (P:=P) (g:=g) (w:=w) hT adH;have hvz:v=z:=by
       have:(zeroValue e).run P w= .ok z w:=by simp[zeroValue,typeInfo,k1,k5]
       rw[hv1]at this;cases this;rfl
      subst hvz;have Z3:ags.length=ie.size:=by rw[V7.1];simpa using k6
      have fO:(madeCells v.cells (m*ti.size)).toList=(List.replicate m v.cells.toList).flatten:=by rw[k2,←k6];exact Gi _ _ (by omega)
      obtain⟨g',gu,hp⟩:=hs.kb ri (.cells (madeCells v.cells (m*ti.size)) e) (Go.RowKit.frozen?_alloc_cells w _ _) (.rows ie.size (List.replicate m ags)) (fun g' hH hK hB oN tq=>by
       refine⟨by rw[hB];exact hK,by rw[hB,hH];simp,_,e,by rw[hB];exact F9 e w,by simp[size_madeCells,k2],fun r hr=>by rw[List.eq_of_mem_replicate hr];exact Z3,?_⟩;rw[List.length_replicate,List.take_of_length_le (by simp[size_madeCells,k2]),fO];have hv3:=V7.ext oN.ext;exact hv3.rep m)
      obtain⟨e1,e2⟩:=jm hp;have e1:w.heap.size=g'.B (.own d):=by simpa using e1
      rw[cE];exact hn ((S.bK (.own d) (.rows ie.size (List.replicate m ags))).put d (.bs (.own d) ie.size m)) _ _ _ hk (gu.put (hd d cE) hl (.of (.bs e1.symm (by rw[e1];exact e2) (Nat.le_refl _))) (fun s sz rows e=>by cases e) (fun l e=>by cases e) (fun sz rows e=>by cases e) (fun s wt v' e=>by cases e))
     ·exact h.elim
   ·exact h.elim
 ·exact h.elim
theorem jr{sz:Nat}{rows:List (List PV)}{xs:Array Value}(hr:∀r∈rows,r.length=sz)(hle:rows.length*sz≤xs.size)(hC:dg w g.H rows.flatten (xs.toList.take (rows.length*sz))){k:Nat}{r:List PV}(hk:rows[k]? =some r):
  k*sz+sz≤xs.size∧ ∀(j:Nat) u,r[j]? =some u→ ∃y,xs[k*sz+j]? =some y∧cK w g.H u y:=by
 have PJ:k<rows.length:=(List.getElem?_eq_some_iff.1 hk).1;have aag:(k+1)*sz≤rows.length*sz:=Nat.mul_le_mul_right _ PJ;rw[Nat.succ_mul]at aag;refine⟨by omega,fun j u hu=>?_⟩;have sZ:j<sz:=by have:=(List.getElem?_eq_some_iff.1 hu).1;rw[hr r (List.mem_of_getElem? hk)]at this;exact this
 have hf:=gr hr hk sZ;rw[hu]at hf;obtain⟨y,hy,hp⟩:=hC.at_ hf;rw[List.getElem?_take_of_lt (by omega),Array.getElem?_toList]at hy;exact⟨y,hy,hp⟩
theorem Ec(hT:bw P T)(hs:bR T n g0 w0 S g a w){o:Oper}{t:TypeId}{x:Operand}(ho:o.op= .load t x){l:Loc}{sz k off:Nat}(hx:aA g w (.bp l sz k off) (a.eval x)){rows:List (List PV)}(hb:S.bx l=some (.rows sz rows)){r:List PV}(hr:rows[k]? =some r){v:AV}(hv:mX T t sz r off=some v):
  kB P o a w g v:=by
 obtain⟨ex,hK⟩:=LS hx;obtain⟨_,hH,xs,agh,hh,hle,tk,hC⟩:=hs.boxes l _ hb;obtain⟨h1,h2⟩:=jr tk hle hC hr;obtain⟨y,hy,hp⟩:=xb (w:=w) (g:=g) hT hv (b:=g.B l) (o:=k*sz) (tk r (List.mem_of_getElem? hr)) (fun j u hu=>by
  obtain⟨y,hy,hp⟩:=h2 j u hu;exact⟨y,by rw[bF hh];exact hy,hp⟩)
 exact⟨y,jd ho ex hy,hp⟩
theorem Gj(hT:bw P T)(hs:bR T n g0 w0 S g a w){o:Oper}{t:TypeId}{x:Operand}(ho:o.op= .load t x){l:Loc}{sz k off:Nat}(hx:aA g w (.bp l sz k off) (a.eval x))(h:oI T S [] none o.dst t l sz k off K)(hd:∀e,o.dst=some e→e<n)(hn:Rest T n g0 w0 K next){Q:Exit→Act→World→Prop} :o.wp P a w next Q:=by
 unfold oI at h;split at h
 ·rename_i db rows hb;cases jC:Nat.beq db sz with
  | false=>rw[jC]at h;exact h.elim
  | true=>
   rw[jC]at h;have:=beq_true.1 jC;subst this;simp only[cond_true]at h;obtain⟨r,hr,h⟩:=h;split at h
   ·rename_i v hv;exact xM h hs hd (Ec hT hs ho hx hb hr hv) hn
   ·exact h.elim
 ·exact h.elim
theorem Gk(hT:bw P T)(hs:bR T n g0 w0 S g a w){o:Oper}{t:TypeId}{x:Operand}(ho:o.op= .load t x){c:bq}{s:Nat}{wt:Bool}{l:Loc}{sz k off:Nat}(h:oI T S c (some (s,wt)) o.dst t l sz k off K)(hd:∀e,o.dst=some e→e<n)(hn:Rest T n g0 w0 K next){Q:Exit→Act→World→Prop} :
  (c.valid a.tmps→a.tmps[s]? =some (.bool wt)→aA g w (.bp l sz k off) (a.eval x)→o.wp P a w next Q)∧(a.tmps[s]? ≠some (.bool wt)→next (a.put o.dst undef) w):=by
 unfold oI at h;split at h
 ·rename_i db rows hb;cases jC:Nat.beq db sz with
  | false=>rw[jC]at h;exact h.elim
  | true=>
   rw[jC]at h;have:=beq_true.1 jC;subst this;simp only[cond_true]at h;obtain⟨r,hr,h⟩:=h;split at h
   ·rename_i v hv;obtain⟨k1,k2⟩:=lR (P:=P) (o:=o) (Q:=Q) h hs hd (ke (na hv)) hn;exact⟨fun hc hw hx=>k1 hc hw (Ec hT hs ho hx hb (bq.kD hc hr) hv),k2⟩
   ·exact h.elim
 ·exact h.elim
theorem B4(hT:bw P T)(hs:bR T n g0 w0 S g a w){o:Oper}{t:TypeId}{x y:Operand}(ho:o.op= .store t x y)(cE:o.dst=none){l:Loc}{sz k off:Nat}(hx:aA g w (.bp l sz k off) (a.eval x))(h:rU T S t l sz k off (bO T S [] t y) K)(hn:Rest T n g0 w0 K next){Q:Exit→Act→World→Prop} :o.wp P a w next Q:=by
 have hY:=bN hT hs (c:= []) (by intro e he;cases he) t y;have jI:a.put o.dst undef=a:=by rw[cE];rfl
 unfold rU at h;cases fE:S.aJ with
 | true=>rw[fE]at h;exact h.elim
 | false=>
 rw[fE]at h;simp only[cond_false]at h;split at h
 ·rename_i db rows hb;split at h
  ·rename_i ns oO;cases jC:(Nat.beq db sz&&(T.ea t ns.length&&Nat.ble (off+ns.length) sz))with
   | false=>rw[jC]at h;exact h.elim
   | true=>
    rw[jC]at h;simp only[cond_true]at h;simp only[Bool.and_eq_true]at jC;obtain⟨q1,q2,q3⟩:=jC;have:=beq_true.1 q1;subst this;have q3:=Nat.le_of_ble_eq_true q3;obtain⟨i,hi,Tk⟩:=dT.1 q2;obtain⟨r,hr,jx,rfl,hk⟩:=h;obtain⟨ex,hK⟩:=LS hx;obtain⟨_,hH,xs,agh,hh,hle,tk,hC⟩:=hs.boxes l _ hb;obtain⟨h1,h2⟩:=jr tk hle hC hr;have mh:=fm hY oO;have rX:=mA hY oO;obtain⟨w',LG,iD⟩:=jB hT ho hi ex (by omega) hh (by omega) (nK hY oO);refine jO LG ?_;rw[jI];have oN:=(gN hs.fresh hK hH iD).ge;have FC:r.length=db:=tk r (List.mem_of_getElem? hr);have PJ:k<rows.length:=(List.getElem?_eq_some_iff.1 hr).1;refine hn _ _ _ _ hk (hs.wrote hb fE hH iD ⟨hK,hH,_,agh,iD.block,?_,?_,?_⟩)
    ·rw[List.length_set,List.size_toArray,aV,Array.length_toList];exact hle
    ·intro agf rh;rcases List.mem_or_eq_of_mem_set rh with h | rfl
     ·exact tk agf h
     ·rw[aV];exact FC
    ·
     have zS:∀agf∈rows.set k (cG r off ns),agf.length=db:=fun agf rh=>by
      rcases List.mem_or_eq_of_mem_set rh with h | rfl
      ·exact tk agf h
      ·rw[aV];exact FC
     simp only[List.toList_toArray,List.length_set];refine⟨?_,fun j u z hu hz=>?_⟩
     ·have e1:=cd zS;rw[List.length_set]at e1;rw[e1,List.length_take,aV];have e2:rows.length*db≤xs.toList.length:=by rw[Array.length_toList];exact hle
      exact(Nat.min_eq_left e2).symm
     ·have sZ:j<rows.length*db:=by have:=(List.getElem?_eq_some_iff.1 hu).1;rw[cd zS,List.length_set]at this;exact this
      have dZ:0<db:=by
       rcases Nat.eq_zero_or_pos db with e | e
       ·subst e;simp at sZ
       ·exact e
      have hq:j/db<rows.length:=Nat.div_lt_of_lt_mul (by rw[Nat.mul_comm];exact sZ);have hm:j%db<db:=Nat.mod_lt _ dZ;have ej:j/db*db+j%db=j:=by rw[Nat.mul_comm];exact Nat.div_add_mod j db
      rw[List.getElem?_take_of_lt sZ,eV]at hz;simp only[Array.length_toList]at hz;by_cases L0:j/db=k
      ·have h3:(rows.set k (cG r off ns))[j/db]? =some (cG r off ns):=by rw[L0,List.getElem?_set];simp[PJ]
       have h4:=gr zS h3 hm;rw[ej,hu,eV]at h4;have ejk:j=k*db+j%db:=by rw[←L0];exact ej.symm
       by_cases vX:off≤j%db∧j%db<off+ns.length∧j%db<r.length
       ·rw[if_pos vX]at h4;rw[if_pos ⟨by omega,by omega,by omega⟩]at hz;have e2:j-(k*db+off)=j%db-off:=by omega
        rw[e2]at hz;exact(mh.2 _ u z h4.symm hz).ext oN.ext
       ·rw[if_neg vX]at h4;rw[if_neg (by omega)]at hz;obtain⟨y,hy,hp⟩:=h2 _ u h4.symm;rw[←ejk,←Array.getElem?_toList,hz]at hy;cases hy;exact hp.ext oN.ext
      ·have h3:(rows.set k (cG r off ns))[j/db]? =rows[j/db]? :=by rw[List.getElem?_set_ne (fun e=>L0 e.symm)]
       have h5:rows[j/db]? =some rows[j/db]:=List.getElem?_eq_getElem hq;rw[h5]at h3;have h4:=gr zS h3 hm;rw[ej,hu]at h4;have JW:¬(k*db+off≤j∧j<k*db+off+(a.eval y).cells.size∧j<xs.size):=fun⟨c1,c2,_⟩=>by
        apply L0;have c3:(a.eval y).cells.size=ns.length:=rX;have:j<(k+1)*db:=by rw[Nat.succ_mul];omega
        have d1:j/db<k+1:=Nat.div_lt_of_lt_mul (by rw[Nat.mul_comm];exact this);have d2:k≤j/db:=(Nat.le_div_iff_mul_le dZ).2 (by omega);omega
       rw[if_neg JW]at hz;obtain⟨_,h6⟩:=jr tk hle hC h5;obtain⟨y,hy,hp⟩:=h6 _ u h4.symm;rw[ej,←Array.getElem?_toList,hz]at hy;cases hy;exact hp.ext oN.ext
  ·exact h.elim
 ·exact h.elim
end
section
variable {P:Program} {T:TE} {n:Nat} {g0 g g':G} {w0 w w':World} {S:St} {a:Act} {next:Act→World→Prop} {K:St→Prop} {X:BK→Prop}
theorem Zi{c:bq}{ty:TypeId}{x:Operand}{l:Loc}(h:dh (bO T S c ty x)=some l):∃s,x= .tmp s:=by
 obtain⟨s,h,_⟩:=xN h;exact⟨s,h⟩
theorem Tu{t e:TypeId}{s b:Nat}{z:List AV}{c:Bool}(h:T t=some ⟨.slice e,s,b,z,c⟩):T.elem t=some e:=by simp[TE.elem,h]
theorem HS(hT:bw P T)(hs:bR T n g0 w0 S g a w){c:bq}{o:Oper}{r:nC}(h:g9 T (bO T S c) o=some r):(c.valid a.tmps→BR P o a w g r)∧r.Se S:=by
 unfold g9 at h;split at h
 ·rename_i t x i ho;split at h
  ·rename_i l j sz m he;have JE:=xO hs (c:=c) (ty:=t) (x:=x);rw[he]at JE;split at h
   ·rename_i k q e _ _ _ _ hi ht;cases hb:T.ea e sz with
    | false=>rw[hb]at h;cases h
    | true=>
     rw[hb]at h;cases h;refine⟨fun hv=>?_,fun age m5=>JE age (by cases m5;rfl)⟩;have hX:=bN hT hs hv t x;have hI:=bN hT hs hv 0 i;rw[he]at hX;rw[hi]at hI;have ei:=(aA.eg hI).jl;obtain⟨A,ago,cap,k1,k3,k4,k5⟩:=(show ia g w (.vw l j sz m) (a.eval x)from hX);obtain⟨ie,fQ,rfl⟩:=dT.1 hb;have hu:=ga hT ht;rintro⟨h0,h1⟩;rcases k5 with⟨_,k5⟩ | ⟨b,k5⟩
     ·omega
     ·subst k5;refine⟨_,?_,b,ago,cap,k1,rfl⟩;simp[execOp,ho,k3,ei,Instr.indexAt,asIntOf,bl hu,dp hT fQ,Addr.add_eq,h0,h1]
   ·cases h
  ·cases h
 ·rename_i t x f ho;split at h
  ·rename_i l j sz k off he;have JE:=xO hs (c:=c) (ty:=0) (x:=x);rw[he]at JE;split at h
   ·rename_i fo _ hf;cases h;refine⟨fun hv=>?_,fun age m5=>JE age (by cases m5;rfl)⟩;have hX:=bN hT hs hv 0 x;rw[he]at hX;obtain⟨b,m,cap,k1,k3⟩:=(show ia g w (.el l j sz k off) (a.eval x)from hX);obtain⟨gs,hu,fd,HL,rfl,rfl,i,hi⟩:=m6 hT hf;obtain⟨ti,z,h1,h2,_,h4,_⟩:=hT.info _ _ hi;refine⟨_,?_,b,m,cap,k1,rfl⟩;simp[execOp,ho,k3,Instr.fieldAt,bl hu,HL,Instr.sureAddr,fieldPlace,dp hT hi,Addr.add_eq,Nat.add_assoc,show i.size≠0 by omega]
   ·cases h
  ·cases h
 ·rename_i t x hi ho;split at h
  ·rename_i l j sz m he;have JE:=xO hs (c:=c) (ty:=t) (x:=x);rw[he]at JE;split at h
   ·rename_i k q e _ _ _ _ FE ht;cases hb:T.ea e sz with
    | false=>rw[hb]at h;cases h
    | true=>
     rw[hb]at h;cases h;refine⟨fun hv=>?_,fun age m5=>JE age (by cases m5;rfl)⟩;have hX:=bN hT hs hv t x;have hI:=bN hT hs hv 0 hi;rw[he]at hX;rw[FE]at hI;have ei:=(aA.eg hI).jl;obtain⟨A,ago,cap,k1,k3,k4,k5⟩:=(show ia g w (.vw l j sz m) (a.eval x)from hX);obtain⟨ie,fQ,rfl⟩:=dT.1 hb;have hu:=ga hT ht;rintro⟨h0,h1⟩;have hA:(if cap=0 then A else A.map (·.add (0*ie.size)))=A:=by
      split
      ·rfl
      ·cases A with
       | none=>rfl
       | some ad=>
        rcases k5 with⟨k5,_⟩ | ⟨b,k5⟩
        ·cases k5
        ·cases k5;simp[Addr.add_eq]
     refine⟨.slice A q.toNat cap,?_,A,ago,cap,k1,rfl,by omega,?_⟩
     rotate_left
     ·rcases k5 with⟨k5,k6⟩ | k5
      ·exact .inl ⟨k5,by omega⟩
      ·exact .inr k5
     have Ma:(if cap=0 then A else A.map (·.add 0))=A:=by simpa using hA
     simp[execOp,ho,k3,ei,Instr.sliceAt,Instr.slice,Instr.sliceBounds,bl hu,dp hT fQ,dU h0 (show q≤(cap:Int)by omega),Ma]
   ·cases h
  ·cases h
 ·cases h
theorem HT(hs:bR T n g0 w0 S g a w){l:Loc}{i sz k o:Nat}{x:Value}(hx:ia g w (.el l i sz k o) x){ty:TypeId}{cs:List AV}(hb:S.bx l=some (.mix ty cs)){rows:List (List PV)}(hi:fT cs i=some (.mo sz rows)):
  ∃b cap cur e,x= .pointer (some ⟨b,k*sz+o,none⟩)∧w.heap[b]? =some (.cells cur e (0,0))∧rows.length≤cap∧cap≤maxLen∧cur.size=cap*sz∧
   (∀r∈rows,r.length=sz)∧dg w g.H rows.flatten (cur.toList.take (rows.length*sz))∧g.H b=0∧g.K b= .cw (.cell l i)∧
   w.cell? ⟨g.B l,i,none⟩=some (.slice (some ⟨b,0,none⟩) rows.length cap):=by
 obtain⟨b,m,cap,k1,k3⟩:=hx;obtain⟨xs,agh,hK,hH,hh,dZ,hl,hc,xi,Lb,hO,bU⟩:=qE hs hb hi;rw[bU]at k1;cases k1;rcases hO with⟨_,o2⟩ | ⟨b2,tt,cur,e2,o2,q1,q2,q3,q4,q5,q6,q7,q8⟩
 ·cases o2
 ·cases o2;exact⟨b,cap,cur,e2,k3,q1,q2,q3,q4,q5,q6,q7,q8,bU⟩
theorem Ed(hT:bw P T)(hs:bR T n g0 w0 S g a w){o:Oper}{t:TypeId}{x:Operand}(ho:o.op= .load t x){l:Loc}{i sz k off:Nat}(hx:ia g w (.el l i sz k off) (a.eval x)){ty:TypeId}{cs:List AV}(hb:S.bx l=some (.mix ty cs)){rows:List (List PV)}(hi:fT cs i=some (.mo sz rows))
  {r:List PV} (hr:rows[k]? =some r) {v:AV} (hv:mX T t sz r off=some v):kB P o a w g v:=by
 obtain⟨b,cap,cur,e,ex,hh,oL,_,rX,tk,hC,_,_,_⟩:=HT hs hx hb hi;have hle:rows.length*sz≤cur.size:=by rw[rX];exact Nat.mul_le_mul_right _ oL
 obtain⟨h1,h2⟩:=jr tk hle hC hr;obtain⟨y,hy,hp⟩:=xb (w:=w) (g:=g) hT hv (b:=b) (o:=k*sz) (tk r (List.mem_of_getElem? hr)) (fun j u hu=>by
  obtain⟨y,hy,hp⟩:=h2 j u hu;exact⟨y,by rw[bF hh];exact hy,hp⟩)
 exact⟨y,jd ho ex hy,hp⟩
theorem Gl(hT:bw P T)(hs:bR T n g0 w0 S g a w){o:Oper}{t:TypeId}{x:Operand}(ho:o.op= .load t x){l:Loc}{i sz k off:Nat}(hx:ia g w (.el l i sz k off) (a.eval x))(h:oJ T S [] none o.dst t l i sz k off K)(hd:∀e,o.dst=some e→e<n)(hn:Rest T n g0 w0 K next){Q:Exit→Act→World→Prop} :o.wp P a w next Q:=by
 unfold oJ at h;split at h
 ·rename_i ty cs hb;split at h
  ·rename_i db rows hi;cases jC:Nat.beq db sz with
   | false=>rw[jC]at h;exact h.elim
   | true=>
    rw[jC]at h;have:=beq_true.1 jC;subst this;simp only[cond_true]at h;obtain⟨r,hr,h⟩:=h;split at h
    ·rename_i v hv;exact xM h hs hd (Ed hT hs ho hx hb hi hr hv) hn
    ·exact h.elim
  ·exact h.elim
 ·exact h.elim
theorem Gm(hT:bw P T)(hs:bR T n g0 w0 S g a w){o:Oper}{t:TypeId}{x:Operand}(ho:o.op= .load t x){c:bq}{s:Nat}{wt:Bool}{l:Loc}{i sz k off:Nat}(h:oJ T S c (some (s,wt)) o.dst t l i sz k off K)(hd:∀e,o.dst=some e→e<n)(hn:Rest T n g0 w0 K next){Q:Exit→Act→World→Prop} :
  (c.valid a.tmps→a.tmps[s]? =some (.bool wt)→ia g w (.el l i sz k off) (a.eval x)→o.wp P a w next Q)∧(a.tmps[s]? ≠some (.bool wt)→next (a.put o.dst undef) w):=by
 unfold oJ at h;split at h
 ·rename_i ty cs hb;split at h
  ·rename_i db rows hi;cases jC:Nat.beq db sz with
   | false=>rw[jC]at h;exact h.elim
   | true=>
    rw[jC]at h;have:=beq_true.1 jC;subst this;simp only[cond_true]at h;obtain⟨r,hr,h⟩:=h;split at h
    ·rename_i v hv;obtain⟨k1,k2⟩:=lR (P:=P) (o:=o) (Q:=Q) h hs hd (ke (na hv)) hn;exact⟨fun hc hw hx=>k1 hc hw (Ed hT hs ho hx hb hi (bq.kD hc hr) hv),k2⟩
    ·exact h.elim
  ·exact h.elim
 ·exact h.elim
theorem Mb{sz k off:Nat}{rows:List (List PV)}{r ns:List PV}{xs:Array Value}{ys:List Value}(tk:∀r∈rows,r.length=sz)(hle:rows.length*sz≤xs.size)(hC:dg w g.H rows.flatten (xs.toList.take (rows.length*sz)))
  (hr:rows[k]? =some r) (q3:off+ns.length≤sz) (mh:dg w g.H ns ys):
  (∀agf∈rows.set k (cG r off ns),agf.length=sz)∧dg w g.H (rows.set k (cG r off ns)).flatten ((cG xs.toList (k*sz+off) ys).take (rows.length*sz)):=by
 obtain⟨h1,h2⟩:=jr tk hle hC hr;have rX:ys.length=ns.length:=mh.1.symm;have FC:r.length=sz:=tk r (List.mem_of_getElem? hr);have PJ:k<rows.length:=(List.getElem?_eq_some_iff.1 hr).1;have zS:∀agf∈rows.set k (cG r off ns),agf.length=sz:=fun agf rh=>by
  rcases List.mem_or_eq_of_mem_set rh with h | rfl
  ·exact tk agf h
  ·rw[aV];exact FC
 refine⟨zS,?_,fun j u z hu hz=>?_⟩
 ·have e1:=cd zS;rw[List.length_set]at e1;rw[e1,List.length_take,aV];have e2:rows.length*sz≤xs.toList.length:=by rw[Array.length_toList];exact hle
  exact(Nat.min_eq_left e2).symm
 ·have sZ:j<rows.length*sz:=by have:=(List.getElem?_eq_some_iff.1 hu).1;rw[cd zS,List.length_set]at this;exact this
  have dZ:0<sz:=by
   rcases Nat.eq_zero_or_pos sz with e | e
   ·subst e;simp at sZ
   ·exact e
  have hq:j/sz<rows.length:=Nat.div_lt_of_lt_mul (by rw[Nat.mul_comm];exact sZ);have hm:j%sz<sz:=Nat.mod_lt _ dZ;have ej:j/sz*sz+j%sz=j:=by rw[Nat.mul_comm];exact Nat.div_add_mod j sz
  rw[List.getElem?_take_of_lt sZ,eV]at hz;simp only[Array.length_toList]at hz;by_cases L0:j/sz=k
  ·have h3:(rows.set k (cG r off ns))[j/sz]? =some (cG r off ns):=by rw[L0,List.getElem?_set];simp[PJ]
   have h4:=gr zS h3 hm;rw[ej,hu,eV]at h4;have ejk:j=k*sz+j%sz:=by rw[←L0];exact ej.symm
   by_cases vX:off≤j%sz∧j%sz<off+ns.length∧j%sz<r.length
   ·rw[if_pos vX]at h4;rw[if_pos ⟨by omega,by omega,by omega⟩]at hz;have e2:j-(k*sz+off)=j%sz-off:=by omega
    rw[e2]at hz;exact mh.2 _ u z h4.symm hz
   ·rw[if_neg vX]at h4;rw[if_neg (by omega)]at hz;obtain⟨y,hy,hp⟩:=h2 _ u h4.symm;rw[←ejk,←Array.getElem?_toList,hz]at hy;cases hy;exact hp
  ·have h3:(rows.set k (cG r off ns))[j/sz]? =rows[j/sz]? :=by rw[List.getElem?_set_ne (fun e=>L0 e.symm)]
   have h5:rows[j/sz]? =some rows[j/sz]:=List.getElem?_eq_getElem hq;rw[h5]at h3;have h4:=gr zS h3 hm;rw[ej,hu]at h4;have JW:¬(k*sz+off≤j∧j<k*sz+off+ys.length∧j<xs.size):=fun⟨c1,c2,_⟩=>by
    apply L0;have:j<(k+1)*sz:=by rw[Nat.succ_mul];omega
    have d1:j/sz<k+1:=Nat.div_lt_of_lt_mul (by rw[Nat.mul_comm];exact this);have d2:k≤j/sz:=(Nat.le_div_iff_mul_le dZ).2 (by omega);omega
   rw[if_neg JW]at hz;obtain⟨_,h6⟩:=jr tk hle hC h5;obtain⟨y,hy,hp⟩:=h6 _ u h4.symm;rw[ej,←Array.getElem?_toList,hz]at hy;cases hy;exact hp
theorem Gn{q:Place}{b:Nat}{xs:Array Value}{t:TypeId}(hf:eW g w)(hK:g.K b= .cw q)(hH:g.H b=0)(hw:vT w b xs t w'):j8 (fun e=>e= .cw q) g w g w' where
 os:=hw.os
 tape:=hw.tape
 output:=hw.output
 size:=by rw[hw.size];exact Nat.le_refl _
 same c hc hx:=⟨hw.other c (fun e=>hx (by rw[e];exact hK)),rfl,rfl⟩
 ge:=⟨⟨fun _=>Nat.le_refl _,fun c i hi=>by
  have dA:c≠b:=fun e=>by rw[e,hH]at hi;omega
  exact World.cell?_of_block (w:=w) (a:=⟨c,i,none⟩) (hw.other c dA),fun c xs k h0 hm=>(hw.other c (fun e=>by rw[e,hH]at h0;omega)).trans hm⟩,fun age m5=>⟨rfl,m5⟩⟩
 fresh c hc:=hf c (by rw[←hw.size];exact hc)
 fz a _:=hw.fz a
theorem bR.inner(hs:bR T n g0 w0 S g a w){l:Loc}{ty:TypeId}{cs:List AV}(hb:S.bx l=some (.mix ty cs)){i:Nat}(hc:j8 (fun e=>e= .cw (.cell l i)) g w g' w')(vR:∀k,g'.K (g'.B (.own k))= .box (.own k)→g.K (g.B (.own k))= .box (.own k))
  {v':AV} (hv:∀z,w.cell? ⟨g.B l,i,none⟩=some z→fk g' w' l i v' z):bR T n g0 w0 (S.bK l (.mix ty (cG cs i [v']))) g' a w':=by
 obtain⟨hK,hH,xs,Zf,hh,dZ,hl,xa⟩:=hs.boxes l _ hb;have aN:=bJ hh;obtain⟨q1,q2,q3⟩:=hc.same _ aN (by rw[hK];simp);have hB:=hc.ge.box _ hK;have mk:∀u,(∀z,xs[i]? =some z→fk g' w' l i u z)→iB T g' w' l (.mix ty (cG cs i [u])):=fun u hu=>
  xU (by rw[hB.1];exact hB.2) (by rw[hB.1,q2];exact hH) (by rw[hB.1,q1];exact hh) dZ (by rw[aV];exact hl) (nL hl (fun j v z hj h1 h2=>(xa j v z h1 h2).jq hc (by simp;intro e;exact absurd e hj)) hu)
 have gY:bR T n g0 w0 (S.bK l (.mix ty (cG cs i [.dead]))) g a w:=
  hs.Gb hb (xU hK hH hh dZ (by rw[aV];exact hl) (nL hl (fun j v z _ h1 h2=>xa j v z h1 h2) (fun z _=>aA.dead z)))
 have kf:bR T n g0 w0 (S.bK l (.mix ty (cG cs i [.dead]))) g' a w':=by
  refine gY.jq hc (by simp) (fun t ht=>by injection ht with ht;cases ht) (fun m c hm hx=>?_) (fun t l _=>by simp) (fun k hk=>gY.live k (vR _ hk));rcases hx with hx | ⟨agz,hx⟩
  ·cases hx
  ·injection hx with hx
   injection hx with h1 h2
   subst h1;subst h2;rw[St.cM,if_pos rfl]at hm;cases hm;exact mk _ (fun z _=>aA.dead z)
 have V8:=kf.Gb (l:=l) (b:= .mix ty (cG cs i [.dead])) (by rw[St.cM,if_pos rfl]) (mk v' (fun z hz=>hv z (by rw[bF hh];exact hz)));have e:((S.bK l (.mix ty (cG cs i [.dead]))).bK l (.mix ty (cG cs i [v'])))=S.bK l (.mix ty (cG cs i [v'])):=by
  show(⟨S.get,_,S.lock,S.aJ⟩:St)=⟨S.get,_,S.lock,S.aJ⟩;congr 1;funext m;show(bif Loc.mI l m then _ else(S.bK l _).bx m)=_;cases hm:Loc.mI l m with
  | true=>rfl
  | false=>
   show(bif Loc.mI l m then _ else S.bx m)=_;rw[hm];rfl
 rwa [e]at V8
theorem B5(hT:bw P T)(hs:bR T n g0 w0 S g a w){o:Oper}{t:TypeId}{x y:Operand}(ho:o.op= .store t x y)(cE:o.dst=none){l:Loc}{i sz k off:Nat}(hx:ia g w (.el l i sz k off) (a.eval x))(h:rV T S t l i sz k off (bO T S [] t y) K)(hn:Rest T n g0 w0 K next){Q:Exit→Act→World→Prop} :o.wp P a w next Q:=by
 have hY:=bN hT hs (c:= []) (by intro e he;cases he) t y;have jI:a.put o.dst undef=a:=by rw[cE];rfl
 unfold rV at h;split at h
 ·rename_i ty cs hb;split at h
  ·rename_i db rows hi;split at h
   ·rename_i ns oO;cases jC:(Nat.beq db sz&&(T.ea t ns.length&&Nat.ble (off+ns.length) sz))with
    | false=>rw[jC]at h;exact h.elim
    | true=>
     rw[jC]at h;simp only[cond_true]at h;simp only[Bool.and_eq_true]at jC;obtain⟨q1,q2,q3⟩:=jC;have:=beq_true.1 q1;subst this;have q3:=Nat.le_of_ble_eq_true q3;obtain⟨ie,fQ,Tk⟩:=dT.1 q2;obtain⟨r,hr,jx,rfl,hk⟩:=h;obtain⟨b,cap,cur,e,ex,hh,oL,hmx,rX,tk,hC,hH,hK,bU⟩:=HT hs hx hb hi;have hle:rows.length*db≤cur.size:=by rw[rX];exact Nat.mul_le_mul_right _ oL
     obtain⟨h1,h2⟩:=jr tk hle hC hr;have mh:=fm hY oO;have hvs:=mA hY oO;obtain⟨w',LG,iD⟩:=jB hT ho fQ ex (by omega) hh (by omega) (nK hY oO);refine jO LG ?_;rw[jI];have tq:=Gn hs.fresh hK hH iD;obtain⟨p1,p2⟩:=Mb tk hle hC hr q3 mh;refine hn _ _ _ _ hk (hs.inner hb tq (fun k hk=>hk) (fun z hz=>?_));rw[bU]at hz;cases hz;refine .inr ⟨b,cap,_,e,by rw[List.length_set],iD.block,by rw[List.length_set];exact oL,hmx,?_,p1,?_,hH,hK⟩
     ·rw[List.size_toArray,aV,Array.length_toList];exact rX
     ·rw[List.length_set];simp only[List.toList_toArray];exact p2.ext tq.ge.ext
   ·exact h.elim
  ·exact h.elim
 ·exact h.elim
theorem bR.cut(hs:bR T n g0 w0 S g a w){l:Loc}{b:er}(hb:S.bx l=some b)(hH:g.H (g.B l)=0){off:Nat}{ys:Array Value}{t:TypeId}(hw:vT w (g.B l) ys t w'){x:Value}
  (Mc:∃xs:Array Value,ys=(cG xs.toList off (#[x]:Array Value).toList).toArray∧w.heap[g.B l]? =some (.cells xs t (0,0))∧off<xs.size)
  {A:Option Addr} {m ago cap:Nat} (hx:x= .slice A m cap) (bU:w.cell? ⟨g.B l,off,none⟩=some (.slice A ago cap)) (hm:m≤ago) (hA:(∃b2,A=some ⟨b2,0,none⟩∧g.H b2=0)∨ago=0)
  {b':er} (mi:iB T g w' l b'):bR T n g0 w0 (S.bK l b') g a w':=by
 have hK:=(hs.boxes l b hb).gV;have hc:=gN hs.fresh hK hH hw;obtain⟨xs,rfl,hh,aN⟩:=Mc;have W6:∀i,w'.cell? ⟨g.B l,i,none⟩=if i=off then some x else w.cell? ⟨g.B l,i,none⟩:=fun i=>by
  rw[bF hw.block,bF hh,List.getElem?_toArray,eV];by_cases e:i=off
  ·subst e;rw[if_pos rfl,if_pos ⟨Nat.le_refl _,by simp,by simpa using aN⟩];simp
  ·rw[if_neg e,if_neg (by simp;omega),Array.getElem?_toList]
 have view:∀l2 i A2 m2 tt,g.K (g.B l2)= .box l2→w.cell? ⟨g.B l2,i,none⟩=some (.slice A2 m2 tt)→ ∃m3,w'.cell? ⟨g.B l2,i,none⟩=some (.slice A2 m3 tt):=fun l2 i A2 m2 tt jJ h2=>by
  by_cases e:l2=l
  ·subst e;rw[W6];by_cases e2:i=off
   ·subst e2;rw[bU]at h2;cases h2;rw[if_pos rfl,hx];exact⟨m,rfl⟩
   ·rw[if_neg e2];exact⟨m2,h2⟩
  ·refine⟨m2,?_⟩;have dA:g.B l2≠g.B l:=fun e3=>by
    rw[e3,hK]at jJ;injection jJ with jJ
    exact e jJ.symm
   rw[World.cell?_of_block (w:=w) (w':=w') (a:=⟨g.B l2,i,none⟩) (hw.other _ dA)];exact h2
 have hkB:∀l2,eu (S.get l2)=eu (S.get l2):=fun _=>rfl
 have xr:∀(v:AV) (y:Value),(∀l2,dh v=some l2→g.K (g.B l2)= .box l2)→ia g w v y→ia g w' v y:=fun v y hv h=>by
  cases v with
  | vw l2 i sz q=>
   obtain⟨A2,m2,tt,h1,h2,h3⟩:=h;obtain⟨m3,h4⟩:=view l2 i A2 m2 tt (hv l2 rfl) h1;exact⟨A2,m3,tt,h4,h2,h3⟩
  | el l2 i sz k o=>
   obtain⟨b2,m2,tt,h1,h2⟩:=h;obtain⟨m3,h4⟩:=view l2 i _ m2 tt (hv l2 rfl) h1;exact⟨b2,m3,tt,h4,h2⟩
  | _=>exact aA.ext h hc.ge
 exact {
  defers:=hs.defers
  size:=hs.size
  bH:=fun t=>by
   have h:=hs.bH t;have wV:∀l2,eu (S.get t)=some l2→g.K (g.B l2)= .box l2:=fun l2 he=>by
    obtain⟨_,b,hb⟩:=hs.aJ t l2 he;exact(hs.boxes l2 b hb).gV
   show mg g w' a.tmps t (S.get t) (a.tmps.getD t undef);generalize S.get t=v at h wV;generalize a.tmps.getD t undef=y at h;cases v with
   | own sz rows=>exact dG.jq h hc (by simp)
   | mo sz rows=>exact fZ.jq h hc (by simp)
   | fS s wt v=>exact⟨fun e=>xr v y (fun l2 hl=>wV l2 (rW hl)) (h.1 e),h.2⟩
   | vw l2 i sz q=>exact xr (.vw l2 i sz q) y (fun l2 hl=>wV l2 (sW hl)) h
   | el l2 i sz k o=>exact xr (.el l2 i sz k o) y (fun l2 hl=>wV l2 (sW hl)) h
   | cp q sz rows=>
    refine⟨h.1.ext hc.ge.ext,?_,h.2.2⟩;have h2:=h.2.1;have h1:=h.1;have h3:=h.2.2;cases q with
    | slot s=>exact h2
    | res=>exact h2
    | cell l2 i=>
     simp only[Aj]at h2 ⊢;have jJ:=wV l2 rfl;by_cases e:l2=l
     ·subst e;rw[W6];by_cases e2:i=off
      ·subst e2;rw[if_pos rfl];rw[bU]at h2;cases h2;have dZ:=h3 l2 i rfl;have wW:m=ago:=by
        rcases hA with⟨b2,rfl,Zj⟩ | hA
        ·generalize hy:Value.slice (some ⟨b2,0,none⟩) ago cap=y at h1;cases h1 with
         | nil=>cases hy;omega
         | @sl _ _ b3 o3 adL vs oL hr WU dP hvv=>
          cases hy;rw[Zj]at WU;have:rows.length*1≤rows.length*sz:=Nat.mul_le_mul_left _ dZ;omega
        ·omega
       rw[hx,wW]
      ·rw[if_neg e2];exact h2
     ·have dA:g.B l2≠g.B l:=fun e3=>by
       rw[e3,hK]at jJ;injection jJ with jJ
       exact e jJ.symm
      rw[World.cell?_of_block (w:=w) (w':=w') (a:=⟨g.B l2,i,none⟩) (hw.other _ dA)];exact h2
   | _=>exact aA.ext h hc.ge
  boxes:=fun m c hm=>by
   rw[St.cM]at hm;split at hm
   ·rename_i e;subst e;cases hm;exact mi
   ·rename_i dA;exact(hs.boxes m c hm).jq hc (fun e=>dA (by injection e with e;exact e.symm)) (fun _ e=>by cases e)
  fresh:=hc.fresh
  dc:=hs.dc
  aJ:=fun t age e=>by
   obtain⟨q1,b,q2⟩:=hs.aJ t age e;refine⟨q1,?_⟩;rw[St.cM];split
   ·exact⟨_,rfl⟩
   ·exact⟨b,q2⟩
  dm:=hs.dm
  de:=hs.de
  live:=fun k hk=>by
   rw[St.cM];split
   ·exact⟨_,rfl⟩
   ·exact hs.live k hk
  frame:=hc.frame (by simp) hs.frame}
theorem B6(hT:bw P T)(hs:bR T n g0 w0 S g a w){o:Oper}{t:TypeId}{x y:Operand}(ho:o.op= .store t x y)(cE:o.dst=none){l:Loc}{i sz m:Nat}(hy:ia g w (.vw l i sz m) (a.eval y))(h:storeT T S t (bO T S [] 0 x) l i sz m K)(hn:Rest T n g0 w0 K next){Q:Exit→Act→World→Prop} :o.wp P a w next Q:=by
 have hX:=bN hT hs (c:= []) (by intro e he;cases he) 0 x;have jI:a.put o.dst undef=a:=by rw[cE];rfl
 unfold storeT at h;split at h
 ·rename_i age off he;rw[he]at hX;obtain⟨ex,hKX⟩:=jm hX;cases jC:(Loc.mI age l&&(Nat.beq off i&&T.ea t 1))with
  | false=>rw[jC]at h;exact h.elim
  | true=>
   rw[jC]at h;simp only[cond_true]at h;simp only[Bool.and_eq_true]at jC;obtain⟨q1,q2,q3⟩:=jC;have:=Loc.fJ.1 q1;subst this;have:=beq_true.1 q2;subst this;obtain⟨ie,fQ,Tk⟩:=dT.1 q3;split at h
   ·rename_i ty cs hb;split at h
    ·rename_i db rows hi;cases ny:Nat.beq db sz with
     | false=>rw[ny]at h;exact h.elim
     | true=>
      rw[ny]at h;simp only[cond_true]at h;have:=beq_true.1 ny;subst this;obtain⟨hm,jx,rfl,hk⟩:=h;obtain⟨xs,agh,hK,hH,hh,dZ,hl,hc,xi,Lb,hO,bU⟩:=qE hs hb hi;obtain⟨A,ago,cap,k1,k3,k4,k5⟩:=hy;rw[bU]at k1;cases k1;have fO:(a.eval y).cells= #[a.eval y]:=by rw[k3];rfl
      have bW:off<xs.size:=(Array.getElem?_eq_some_iff.1 Lb).1;obtain⟨w',LG,iD⟩:=jB hT ho fQ ex (by rw[fO];simp;omega) hh (by omega) (by
       rw[fO];intro u hu;simp at hu;subst hu;rw[k3];rfl)
      refine jO LG ?_;rw[jI];have tq:=gN hs.fresh hK hH iD;have WT:fZ g w (.cell age off) db (rows.take m) (a.eval y):=by
       rcases hO with⟨o1,o2⟩ | ⟨b2,tt,cur,e2,o2,p1,p2,p3,p4,p5,p6,p7,p8⟩
       ·cases o2;subst o1;left;refine⟨by simp,?_⟩;rw[k3];simp at hm;rw[hm]
       ·cases o2;have hlen:(rows.take m).length=m:=by rw[List.length_take,Nat.min_eq_left hm]
        right;refine⟨b2,cap,cur,e2,by rw[k3,hlen],p1,by omega,p3,p4,fun r hr=>p5 r (List.mem_of_mem_take hr),?_,p7,p8⟩;rw[hlen];have JC:(rows.take m).flatten=rows.flatten.take (m*db):=by
         have e:rows=rows.take m++rows.drop m:=(List.take_append_drop m rows).symm;have mj:(rows.take m).flatten.length=m*db:=by rw[cd (fun r hr=>p5 r (List.mem_of_mem_take hr)),hlen]
         conv=>rhs;rw[e,List.flatten_append]
         rw[←mj];exact List.take_left.symm
        rw[JC];have wW:m*db≤rows.length*db:=Nat.mul_le_mul_right _ hm;refine⟨?_,fun j u z hu hz=>?_⟩
        ·have:=p6.1;rw[cd p5,List.length_take]at this;rw[List.length_take,List.length_take,cd p5];omega
        ·by_cases hj:j<m*db
         ·rw[List.getElem?_take_of_lt hj]at hu hz;exact p6.2 j u z hu (by rw[List.getElem?_take_of_lt (by omega)];exact hz)
         ·rw[List.getElem?_eq_none (by rw[List.length_take];omega)]at hu;cases hu
      have W0:rows.length=ago∧((∃b2,A=some ⟨b2,0,none⟩∧g.H b2=0)∨ago=0):=by
       rcases hO with⟨o1,o2⟩ | ⟨b2,tt,cur,e2,o2,p1,p2,p3,p4,p5,p6,p7,p8⟩
       ·cases o2;subst o1;exact⟨rfl,.inr rfl⟩
       ·cases o2;exact⟨rfl,.inl ⟨b2,rfl,p7⟩⟩
      refine hn _ _ _ _ hk (hs.cut hb hH iD ?_ k3 bU (by omega) W0.2 (xU hK hH iD.block ?_ ?_ ?_))
      ·rw[fO];exact⟨xs,rfl,hh,bW⟩
      ·rw[List.size_toArray,aV,Array.length_toList];exact dZ
      ·rw[List.size_toArray,aV,aV,Array.length_toList];exact hl
      ·intro j v z hv hz;rw[List.getElem?_toArray]at hz;refine tg (fun i v x h1 h2=>(hc i v x h1 (by rw[←Array.getElem?_toList];exact h2)).wrote tq) (fun j v x h1 h2=>?_) (by simpa using hl) (by rw[fO];rfl) j v z hv hz;rw[fO]at h2;cases j with
       | zero=>
        simp at h1 h2;subst h1;subst h2;exact WT.jq tq (by simp)
       | succ j=>simp at h1
    ·exact h.elim
   ·exact h.elim
 ·exact h.elim
theorem cU.jq{v:AV}{x:Value}(h:cU g w v x)(hc:j8 X g w g' w')(hb:∀l,dh v=some l→g.K (g.B l)= .box l∧ ¬X (.box l))(lp:∀b,w.heap.size≤b→g.K b= .none):cU g' w' v x:=by
 cases v with
 | own sz rows=>exact cK.ext h hc.ge.ext
 | cp q sz rows=>exact cK.ext h hc.ge.ext
 | mo sz rows=>trivial
 | vw l i sz m=>exact ia.jq (v:= .vw l i sz m) h hc hb lp
 | el l i sz k o=>exact ia.jq (v:= .el l i sz k o) h hc hb lp
 | _=>exact aA.ext h hc.ge
def G.fin(g:G)(b m:Nat):G:=⟨fun c=>if c=b then m else g.H c,fun c=>if c=b then .none else g.K c,g.B,g.D⟩
theorem PK{q:Place}{b m:Nat}(hf:eW g w)(hb:b<w.heap.size)(hK:g.K b= .cw q)(hH:g.H b=0):j8 (fun e=>e= .cw q) g w (g.fin b m) w where
 os:=rfl
 tape:=rfl
 output:=rfl
 size:=Nat.le_refl _
 same c hc hx:=by
  have dA:c≠b:=fun e=>hx (by rw[e];exact hK)
  exact⟨rfl,by simp[G.fin,dA],by simp[G.fin,dA]⟩
 ge:=⟨⟨fun c=>by
  simp only[G.fin];split
  ·rename_i e;subst e;rw[hH];exact Nat.zero_le _
  ·exact Nat.le_refl _,fun _ _ _=>rfl,fun _ _ _ _ h=>h⟩,fun l hl=>⟨rfl,by
  simp only[G.fin];rw[if_neg (fun e=>by rw[e,hK]at hl;cases hl)];exact hl⟩⟩
 fresh c hc:=by
  simp only[G.fin];rw[if_neg (by omega),if_neg (by omega)];exact hf c hc
 fz _ _:=rfl
theorem Md(hs:bR T n g0 w0 S g a w){l:Loc}{i sz:Nat}{rows:List (List PV)}{x:Value}(hx:ia g w (.vw l i sz rows.length) x){ty:TypeId}{cs:List AV}(hb:S.bx l=some (.mix ty cs))(hi:fT cs i=some (.mo sz rows)):
  ∃g',bR T n g0 w0 (S.bK l (.mix ty (cG cs i [.p (.sl sz rows)]))) g' a w∧j8 (fun e=>e= .cw (.cell l i)) g w g' w∧cK w g'.H (.sl sz rows) x:=by
 obtain⟨xs,agh,hK,hH,hh,dZ,hl,hc,xi,Lb,hO,bU⟩:=qE hs hb hi;obtain⟨A,ago,cap,k1,k3,k4,k5⟩:=hx;rw[bU]at k1;cases k1;rcases hO with⟨o1,o2⟩ | ⟨b2,tt,cur,e2,o2,p1,p2,p3,p4,p5,p6,p7,p8⟩
 ·cases o2;subst o1;have tq:j8 (fun e=>e= .cw (.cell l i)) g w g w:=⟨rfl,rfl,rfl,Nat.le_refl _,fun _ _ _=>⟨rfl,rfl,rfl⟩,.refl _ _,hs.fresh,fun _ _=>rfl⟩;have hp:cK w g.H (.sl sz []) (.slice none 0 0):= .nil sz none 0 (fun _=>rfl);refine⟨g,hs.inner hb tq (fun k hk=>hk) (fun z hz=>?_),tq,by rw[k3];exact hp⟩;rw[bU]at hz;cases hz;exact aA.p hp
 ·cases o2;have tq:=PK (m:=rows.length*sz) hs.fresh (bJ p1) p8 p7;have hp:cK w (g.fin b2 (rows.length*sz)).H (.sl sz rows) (.slice (some ⟨b2,0,none⟩) rows.length cap):=by
   have:dG ⟨(g.fin b2 (rows.length*sz)).H,fun c=>if c=b2 then .cw .res else g.K c,g.B,g.D⟩ w .res sz rows (.slice (some ⟨b2,0,none⟩) rows.length cap):=
    .inr ⟨b2,cap,cur,e2,rfl,p1,p2,p3,p4,p5,p6.ext tq.ge.ext,by simp[G.fin],by simp⟩
   exact this.K3
  refine⟨g.fin b2 (rows.length*sz),hs.inner hb tq (fun k hk=>?_) (fun z hz=>?_),tq,by rw[k3];exact hp⟩
  ·have hk:(if g.B (.own k)=b2 then BK.none else g.K (g.B (.own k)))= .box (.own k):=hk;split at hk
   ·cases hk
   ·exact hk
  ·rw[bU]at hz;cases hz;exact aA.p hp
theorem Tv:∀(args:List AV) {S:St} {g:G} {xs:List Value} {K:St→List AV→Prop},bR T n g0 w0 S g a w→sU S args K→args.length=xs.length→(∀(j:Nat) u x,args[j]? =some u→xs[j]? =some x→cU g w u x∧HN S u)→
  ∃agj g' oP,K agj oP∧bR T n g0 w0 agj g' a w∧oP.length=xs.length∧(∀(j:Nat) u x,oP[j]? =some u→xs[j]? =some x→cU g' w u x)∧(∃X:BK→Prop,j8 X g w g' w∧ ∀l,¬X (.box l))∧agj.aJ=S.aJ∧ ∀l b,S.bx l=some b→ ∃b',agj.bx l=some b':=by
 intro args;induction args with
 | nil=>
  intro S g xs K hs h hl hr;exact⟨S,g,[],h,hs,hl,by simp,⟨fun _=>False,⟨rfl,rfl,rfl,Nat.le_refl _,fun _ _ _=>⟨rfl,rfl,rfl⟩,.refl _ _,hs.fresh,fun _ _=>rfl⟩,fun _ h=>h⟩,rfl,fun l b h=>⟨b,h⟩⟩
 | cons v r ih=>
  intro S g xs K hs h hl hr;cases xs with
  | nil=>simp at hl
  | cons x xs=>
  have hv:=(hr 0 v x rfl rfl).1;have uM:=(hr 0 v x rfl rfl).2;have rh:∀(j:Nat) u y,r[j]? =some u→xs[j]? =some y→cU g w u y∧HN S u:=fun j u y h1 h2=>hr (j+1) u y (by simpa using h1) (by simpa using h2)
  have plain:sU S r (fun S r=>K S (v::r))→ ∃agj g' oP,K agj oP∧bR T n g0 w0 agj g' a w∧oP.length=(x::xs).length∧(∀(j:Nat) u y,oP[j]? =some u→(x::xs)[j]? =some y→cU g' w u y)∧(∃X:BK→Prop,j8 X g w g' w∧ ∀l,¬X (.box l))∧agj.aJ=S.aJ∧ ∀l b,S.bx l=some b→ ∃b',agj.bx l=some b':=by
   intro h;obtain⟨agj,g',oP,h1,h2,h3,h4,⟨X,h5,h6⟩,h7,h8⟩:=ih hs h (by simpa using hl) rh;refine⟨agj,g',v::oP,h1,h2,by simp[h3],fun j u y hu hy=>?_,⟨X,h5,h6⟩,h7,h8⟩;cases j with
   | zero=>
    simp at hu hy;subst hu;subst hy;refine hv.jq h5 (fun l hl=>⟨?_,h6 l⟩) (fun b hb=>(hs.fresh b hb).2);obtain⟨_,b,hb⟩:=uM l hl;exact(hs.boxes l b hb).gV
   | succ j=>exact h4 j u y (by simpa using hu) (by simpa using hy)
  cases v with
  | vw l i sz m=>
   unfold sU at h;simp only at h;split at h
   ·rename_i ty cs hb;split at h
    ·rename_i db rows hi;cases jC:Nat.beq db sz with
     | false=>rw[jC]at h;exact h.elim
     | true=>
      rw[jC]at h;simp only[cond_true]at h;have:=beq_true.1 jC;subst this;obtain⟨rfl,h⟩:=h;obtain⟨g1,gY,r7,hp⟩:=Md hs hv hb hi;obtain⟨agj,g',oP,h1,h2,h3,h4,⟨X,h5,h6⟩,h7,h8⟩:=ih gY h (by simpa using hl) (fun j u y hu hy=>by
       obtain⟨k1,k2⟩:=rh j u y hu hy;refine⟨k1.jq r7 (fun l hl=>⟨?_,by simp⟩) (fun b hb=>(hs.fresh b hb).2),fun age m5=>?_⟩
       ·obtain⟨_,b,hb⟩:=k2 l hl;exact(hs.boxes l b hb).gV
       ·obtain⟨q1,b,q2⟩:=k2 age m5;refine⟨q1,?_⟩;rw[St.cM];split
        ·exact⟨_,rfl⟩
        ·exact⟨b,q2⟩)
      refine⟨agj,g',.p (.sl db rows)::oP,h1,h2,by simp[h3],fun j u y hu hy=>?_,⟨fun e=>e= .cw (.cell l i)∨X e,⟨rfl,rfl,rfl,Nat.le_refl _,fun b hb hx=>?_,r7.ge.trans h5.ge,h5.fresh,fun _ _=>rfl⟩,fun l hx=>?_⟩,h7,fun age b fE=>?_⟩
      ·cases j with
       | zero=>
        simp at hu hy;subst hu;subst hy;exact aA.p (hp.ext h5.ge.ext)
       | succ j=>exact h4 j u y (by simpa using hu) (by simpa using hy)
      ·obtain⟨a1,a2,a3⟩:=r7.same b hb (fun e=>hx (.inl e));obtain⟨b1,b2,b3⟩:=h5.same b hb (fun e=>hx (.inr (by rw[←a3];exact e)));exact⟨rfl,b2.trans a2,b3.trans a3⟩
      ·rcases hx with hx | hx
       ·cases hx
       ·exact h6 l hx
      ·by_cases e:l=age
       ·exact h8 age _ (by rw[St.cM,if_pos e])
       ·exact h8 age b (by rw[St.cM,if_neg e];exact fE)
    ·exact h.elim
   ·exact h.elim
  | _=>exact plain h
end
section
variable {P:Program} {T:TE} {n:Nat} {g0 g g':G} {w0 w w':World} {S:St} {a:Act} {next:Act→World→Prop} {K:St→Prop} {X:BK→Prop}
theorem x0{ops:Array Oper}{tmps:Array Value}{o:Oper}{j s:Nat}{wt:Bool}(hg:o.guard=some (j,wt))(h:mJ ops.toList j=some s):Region.wanted o (yielded ops tmps)=true↔tmps[s]? =some (.bool wt):=by
 unfold mJ at h;rw[eG,Array.getElem?_toList]at h;split at h
 ·rename_i agq ho;unfold Region.wanted;rw[hg];show(yielded ops tmps j==some wt)=true↔_;unfold yielded;rw[ho];simp only[Option.bind_some,h];split
  ·rename_i b hb;rw[hb];constructor
   ·intro h;rw[eq_of_beq h |> Option.some.inj]
   ·intro h;cases h;exact beq_self_eq_true _
  ·rename_i dA;constructor
   ·intro h;cases h
   ·intro h;exact absurd h (dA wt)
 ·cases h
theorem HU{tmps:Array Value}{s:Nat}{x:Value}(h:tmps[s]? =some x):tmps.getD s undef=x:=by
 rw[Array.getD_eq_getD_getElem?,h];rfl
theorem AD{tmps:Array Value}{s:Nat}{b wt:Bool}(h:aA g w (.p (.bool b)) (tmps.getD s undef))(hw:tmps[s]? =some (.bool wt)):b=wt:=by
 have:=cK.ja h.eg;rw[HU hw]at this;cases this;rfl
theorem vY(hs:bR T n g0 w0 S g a w){ops:List Oper} :∀(f:Nat) {j s:Nat} {wt:Bool} {c:bq},chain ops S f j wt=some c→mJ ops j=some s→a.tmps[s]? =some (.bool wt)→c.valid a.tmps:=by
 intro f;induction f with
 | zero=>intro j s wt c h;cases h
 | succ f ih=>
  intro j s wt c h kC hw;unfold chain at h;unfold mJ at kC;split at h
  ·rename_i agb _ _ _ _ ho;rw[ho]at kC;cases kC;split at h
   ·rename_i b hb;cases h;have hv:=hs.bH s;rw[hb]at hv;have e:=AD hv hw;intro x hx;rw[List.mem_singleton]at hx;subst hx;exact⟨hw,e⟩
   ·cases h
  ·rename_i agb _ _ _ _ aga w' ho;rw[ho]at kC;cases kC;split at h
   ·rename_i s1 w1 b hb;split at h
    ·rename_i s2 kf;cases hc:Nat.beq s1 s2&&(bif w' then w1 else !w1)with
     | false=>rw[hc]at h;cases h
     | true=>
      rw[hc]at h;rw[Bool.and_eq_true]at hc;have e1:=beq_true.1 hc.1;subst e1;have e2:w'=w1:=by
       have:=hc.2;cases w'<;>cases w1<;>simp at this ⊢
      subst e2;have h:(match chain ops S f aga w' with | some c=>some ((s,wt,b)::c) | none=>none)=some c:=h;split at h
      ·rename_i agp FD;cases h;have hv:=hs.bH s;rw[hb]at hv;have Sl:a.tmps[s1]? =some (.bool w'):=by
        by_cases hx:a.tmps[s1]? =some (.bool w')
        ·exact hx
        ·have:=hv.2 hx;rw[HU hw]at this;cases this
       have hr:=hv.1 Sl;have e:=AD hr hw;have w7:=ih FD kf Sl;intro x hx;rw[List.mem_cons]at hx;rcases hx with rfl | hx
       ·exact⟨hw,e⟩
       ·exact w7 x hx
      ·cases h
    ·cases h
   ·cases h
  ·cases h
theorem uV(hT:bw P T)(hs:bR T n g0 w0 S g a w){c:bq}(hv:c.valid a.tmps){args:Array Operand}{tys:Array TypeId}(hl:args.size=tys.size):
  (((args.toList.zip tys.toList).map fun(x,ty)=>bO T S c ty x)).length=(args.map a.eval).size∧
  ∀(j:Nat) u x,((args.toList.zip tys.toList).map fun(x,ty)=>bO T S c ty x)[j]? =some u→(args.map a.eval)[j]? =some x→cU g w u x:=by
 refine⟨by simp[hl],fun j u x hu hx=>?_⟩;rw[List.getElem?_map]at hu;obtain⟨⟨y,ty⟩,h1,rfl⟩:=Option.map_eq_some_iff.1 hu;rw[List.getElem?_zip_eq_some]at h1;rw[Array.getElem?_map]at hx;obtain⟨z,h2,rfl⟩:=Option.map_eq_some_iff.1 hx;rw[←Array.getElem?_toList,h1.1]at h2;cases h2;exact bN hT hs hv ty y
theorem x4{us vs:List AV}{xs ys:Array Value}(h1:us.length=xs.size)(h2:∀(j:Nat) u x,us[j]? =some u→xs[j]? =some x→cU g w u x)(h3:vs.length=ys.size)(h4:∀(j:Nat) u x,vs[j]? =some u→ys[j]? =some x→cU g w u x):
  (us++vs).length=(xs++ys).size∧ ∀(j:Nat) u x,(us++vs)[j]? =some u→(xs++ys)[j]? =some x→cU g w u x:=by
 refine⟨by simp[h1,h3],fun j u x hu hx=>?_⟩;rw[List.getElem?_append]at hu;rw[Array.getElem?_append]at hx;by_cases hj:j<us.length
 ·rw[if_pos hj]at hu;rw[if_pos (by omega)]at hx;exact h2 j u x hu hx
 ·rw[if_neg hj]at hu;rw[if_neg (by omega)]at hx;rw[h1]at hu;exact h4 _ u x hu hx
theorem sc(hT:bw P T)(hs:bR T n g0 w0 S g a w){o:Oper}{f:FuncId}{xs:Array Value}{args:List AV}{fr:Bool}(h:g7 (fA P T) S o.dst f args [] none fr K)
  (cn:mL P f→(execOp a.eval o).run P w= .ok (.enter f xs) w) (hl:args.length=xs.size) (hr:∀(j:Nat) u x,args[j]? =some u→xs[j]? =some x→cU g w u x)
  (hd:∀e,o.dst=some e→e<n) (hn:Rest T n g0 w0 K next) {Q:Exit→Act→World→Prop} :o.wp P a w next Q:=by
 unfold g7 at h;rw[eP]at h;have jI:∀ {S1:St} {r1:AV} {x:Value} {g2:G} {w2:World},bT S1 o.dst r1 K→bR T n g0 w0 S1 g2 a w2→((∃sz rows,r1= .own sz rows∧dG g2 w2 (.slot (o.dst.getD 0)) sz rows x)∨((∀sz rows,r1≠ .own sz rows)∧aA g2 w2 r1 x))→next (a.put o.dst x) w2:=by
  intro S1 r1 x g2 w2 h1 h2 h3;refine D9 h1 h2 hd ?_ hn;rcases h3 with⟨sz,rows,e,hO⟩ | h3
  ·refine .inl ⟨sz,rows,e,fun d pC=>?_⟩;rw[pC]at hO;exact hO
  ·exact .inr h3
 split at h
 ·rename_i agG has;obtain⟨r,hj,h⟩:=h;split at h
  ·rename_i r1 zG;exact Ea cn has hl hr hs hj zG (o.dst.getD 0) (fun x g2 w2 h1 h2=>jI h h1 h2)
  ·exact h.elim
 ·split at h
  ·rename_i fE;simp only[gx,ic]at h;split at h
   ·rename_i agG bs has ny;obtain⟨r,zE,hj,hlen,h⟩:=h;split at h
    ·rename_i agf l rh m5;exact HQ cn (mB (kg List.nodup_nil)) has hl hr ny hs fE hj hlen rh m5 (o.dst.getD 0) (fun x g2 w2 h1 h2=>jI h h1 h2)
    ·exact h.elim
   ·exact h.elim
  ·exact h.elim
theorem sd(hT:bw P T)(hs:bR T n g0 w0 S g a w){o:Oper}{f:FuncId}{xs:Array Value}{args:List AV}{c:bq}{s:Nat}{wt fr:Bool}(h:g7 (fA P T) S o.dst f args c (some (s,wt)) fr K)(hd:∀e,o.dst=some e→e<n)(hn:Rest T n g0 w0 K next){Q:Exit→Act→World→Prop} :
  (c.valid a.tmps→a.tmps[s]? =some (.bool wt)→(mL P f→(execOp a.eval o).run P w= .ok (.enter f xs) w)→args.length=xs.size→(∀(j:Nat) u x,args[j]? =some u→xs[j]? =some x→cU g w u x)→o.wp P a w next Q)∧(a.tmps[s]? ≠some (.bool wt)→next (a.put o.dst undef) w):=by
 unfold g7 at h;rw[eP]at h;split at h
 ·rename_i agG has;simp only at h;obtain⟨r,hj,h⟩:=h;split at h
  ·rename_i r1 zG;refine⟨fun hv hw cn hl hr=>?_,fun hw=>qB h hs hd ⟨fun e=>absurd e hw,fun _=>rfl⟩ (jP _) hn⟩;refine Ea cn has hl hr hs (bq.kD hv hj) zG (o.dst.getD 0) (fun x g2 w2 h1 h2=>?_);refine qB h h1 hd ⟨fun _=>?_,fun e=>absurd hw e⟩ (jP _) hn;rcases h2 with⟨sz,rows,rfl,hO⟩ | ⟨_,hA⟩
   ·exact .p hO.K3
   ·exact hA.lf
  ·exact h.elim
 ·split at h
  ·rename_i fE;simp only[gx,ic]at h;split at h
   ·rename_i agG bs has ny;obtain⟨r,hj,h⟩:=h;split at h
    ·rename_i agf l rh m5;have rv:=mB (S:=S) (m:=3) (kg (ls:=args.flatMap (kX 3)) List.nodup_nil);have hlen:bs.length=(reach S 3 (sQ [] (args.flatMap (kX 3)))).length:=(dr ny).1;refine⟨fun hv hw cn hl hr=>?_,fun hw=>?_⟩
     ·refine HQ cn rv has hl hr ny hs fE (bq.kD hv hj) hlen rh m5 (o.dst.getD 0) (fun x g2 w2 h1 h2=>?_);refine qB h h1 hd ⟨fun _=>?_,fun e=>absurd hw e⟩ (jP _) hn;rcases h2 with⟨sz,rows,rfl,hO⟩ | ⟨_,hA⟩
      ·exact .p hO.K3
      ·exact hA.lf
     ·obtain⟨g2,kf⟩:=LN rv ny hs fE m5;exact qB h kf hd ⟨fun e=>absurd e hw,fun _=>rfl⟩ (jP _) hn
    ·exact h.elim
   ·exact h.elim
  ·exact h.elim
theorem x5(hT:bw P T)(hs:bR T n g0 w0 S g a w){o:Oper}{f:FuncId}{xs:Array Value}{args:List AV}{fr:Bool}(h:xF (fA P T) S o.dst f args fr K)
  (cn:mL P f→(execOp a.eval o).run P w= .ok (.enter f xs) w) (hl:args.length=xs.size) (hr:∀(j:Nat) u x,args[j]? =some u→xs[j]? =some x→cU g w u x) (uM:∀u∈args,HN S u)
  (hd:∀e,o.dst=some e→e<n) (hn:Rest T n g0 w0 K next) {Q:Exit→Act→World→Prop} :o.wp P a w next Q:=by
 unfold xF at h;split at h
 ·exact sc hT hs h cn hl hr hd hn
 ·obtain⟨agj,g',oP,h1,h2,h3,h4,_⟩:=Tv args (xs:=xs.toList) hs h (by simpa using hl) (fun j u x hu hx=>⟨hr j u x hu (by rw[←Array.getElem?_toList];exact hx),uM u (List.mem_of_getElem? hu)⟩);exact sc hT h2 h1 cn (by simpa using h3) (fun j u x hu hx=>h4 j u x hu (by rw[Array.getElem?_toList];exact hx)) hd hn
theorem Ee(hs:bR T n g0 w0 S g a w){c:bq}{args:Array Operand}{tys:Array TypeId} :∀u∈((args.toList.zip tys.toList).map fun(x,ty)=>bO T S c ty x),HN S u:=by
 intro u hu;rw[List.mem_map]at hu;obtain⟨⟨x,ty⟩,_,rfl⟩:=hu;exact xO hs
theorem x6{o:Oper}(h:jo n o=true):∀e,o.dst=some e→e<n:=by
 intro e he;unfold jo at h;rw[he,Bool.and_eq_true]at h;exact Nat.le_of_ble_eq_true h.1
theorem x7{o:Oper}{x:Operand}{args:Array Operand}{tys:Array TypeId}(ho:o.op= .call ⟨.value x,args,tys⟩){f:FuncId}{us vs:List AV}(hx:aA g w (.fn f us vs) (a.eval x)){agG:List AV}(hl:agG.length=(args.map a.eval).size)
  (hr:∀(j:Nat) u x,agG[j]? =some u→(args.map a.eval)[j]? =some x→cU g w u x):
  ∃xs,(mL P f→(execOp a.eval o).run P w= .ok (.enter f xs) w)∧(us++agG++vs).length=xs.size∧ ∀(j:Nat) u x,(us++agG++vs)[j]? =some u→xs[j]? =some x→cU g w u x:=by
 generalize hv:a.eval x=v at hx;cases hx with
 | @fn _ _ _ p q h1 h2 h3 h4=>
  obtain⟨e1,e2⟩:=x4 h1 (fun j u x hu hx=>(h2 j u x hu hx).K6) hl hr;obtain⟨e3,e4⟩:=x4 e1 e2 h3 (fun j u x hu hx=>(h4 j u x hu hx).K6);exact⟨_,fun cq=>tv ho hv cq,e3,e4⟩
theorem HV{f:FuncId}{us vs:List AV}{x:Value}(h:aA g w (.fn f us vs) x):(∀u∈us,dh u=none)∧ ∀u∈vs,dh u=none:=by
 cases h with
 | @fn _ _ _ xs ys h1 h2 h3 h4=>
  refine⟨fun u hu=>?_,fun u hu=>?_⟩
  ·obtain⟨j,hj,rfl⟩:=List.getElem_of_mem hu;exact(h2 j _ _ (List.getElem?_eq_getElem hj) (Array.getElem?_eq_getElem (by omega))).uK
  ·obtain⟨j,hj,rfl⟩:=List.getElem_of_mem hu;exact(h4 j _ _ (List.getElem?_eq_getElem hj) (Array.getElem?_eq_getElem (by omega))).uK
theorem bq.eN{tmps:Array Value} :bq.valid [] tmps:=by intro e he;cases he
theorem Tw{ff:FuncId} :aA g w (.fn ff [] []) (.func (.func ff) #[] #[]):= .fn rfl (by simp) rfl (by simp)
theorem pQ(hT:bw P T)(hs:bR T n g0 w0 S g a w){ops:Array Oper}{apps:List Nat}{fr:Bool}{o:Oper}(cq:jo n o=true)(h:aQ T (fA P T) ops.toList apps fr o S K)(hn:Rest T n g0 w0 K next){Q:Exit→Act→World→Prop} :
  (Region.wanted o (yielded ops a.tmps)=true→o.wp P a w next Q)∧(Region.wanted o (yielded ops a.tmps)=false→next (a.put o.dst undef) w):=by
 have hd:=x6 cq;unfold aQ at h;split at h
 ·rename_i hg;have hw:Region.wanted o (yielded ops a.tmps)=true:=by unfold Region.wanted;rw[hg]
  refine⟨fun _=>?_,fun e=>by rw[hw]at e;cases e⟩;have hv:bq.valid [] a.tmps:=bq.eN;split at h
  ·rename_i x ho;exact F0 hT hs ho h hd hn
  ·rename_i x ho;exact BT hT hs ho h hd hn
  ·rename_i t x ho;split at h
   ·rename_i l sz k off he;have hX:=bN hT hs hv 0 x;rw[he]at hX;exact Gj hT hs ho hX h hd hn
   ·rename_i l i sz k off he;have hX:=bN hT hs hv 0 x;rw[he]at hX;exact Gl hT hs ho hX h hd hn
   ·exact F8 hT hs ho h hd hn
  ·rename_i t x y ho;have j3:o.dst=none:=by
    unfold jo at cq;rw[ho,Bool.and_eq_true]at cq;exact Option.isNone_iff_eq_none.1 cq.2
   split at h
   ·rename_i l sz k off he;have hX:=bN hT hs hv 0 x;rw[he]at hX;exact B4 hT hs ho j3 hX h hn
   ·rename_i l i sz k off he;have hX:=bN hT hs hv 0 x;rw[he]at hX;exact B5 hT hs ho j3 hX h hn
   ·split at h
    ·rename_i l i sz m he;have hY:=bN hT hs hv t y;rw[he]at hY;exact B6 hT hs ho j3 hY h hn
    ·exact D5 hT hs ho j3 h hn
  ·rename_i t x y ok ho;exact B2 hT hs ho h hd hn
  ·rename_i t x y z ho;have j3:o.dst=none:=by
    unfold jo at cq;rw[ho,Bool.and_eq_true]at cq;exact Option.isNone_iff_eq_none.1 cq.2
   exact B3 hT hs ho j3 h hn
  ·rename_i t ho;exact zR hT hs ho h hd hn
  ·rename_i t x y ho;exact wU hT hs ho h hd hn
  ·rename_i e ho;exact D0 hT hs ho h hd hn
  ·rename_i e x ho;exact JK hT hs ho h hd hn
  ·rename_i t len parts ho;exact uN hT hs ho h hd hn
  ·rename_i f args tys ho;have dZ:args.size=tys.size:=by
    unfold jo at cq;rw[ho,Bool.and_eq_true]at cq;exact beq_true.1 cq.2
   obtain⟨e1,e2⟩:=uV hT hs hv dZ;obtain⟨xs,r1,r2,r3⟩:=x7 (P:=P) (us:= []) (vs:= []) ho (x:= .func f) Tw e1 e2;simp only[List.nil_append,List.append_nil]at r2 r3;exact x5 hT hs h r1 r2 r3 (Ee hs) hd hn
  ·rename_i s args tys ho;split at h
   ·rename_i f us vs hf;have dZ:args.size=tys.size:=by
     unfold jo at cq;rw[ho,Bool.and_eq_true]at cq;exact beq_true.1 cq.2
    obtain⟨e1,e2⟩:=uV hT hs hv dZ;have lp:=hs.bH s;rw[hf]at lp;obtain⟨xs,r1,r2,r3⟩:=x7 (P:=P) ho (x:= .tmp s) lp e1 e2;refine x5 hT hs h r1 r2 r3 (fun u hu=>?_) hd hn;rcases List.mem_append.1 hu with hu | hu
    ·rcases List.mem_append.1 hu with hu | hu
     ·exact ke ((HV lp).1 u hu)
     ·exact Ee hs u hu
    ·exact ke ((HV lp).2 u hu)
   ·exact h.elim
  ·rename_i args tys ho;split at h
   ·rename_i x y t agh ha ht;exact BY hT hs ho ha ht h hd hn
   ·exact h.elim
  ·split at h
   ·rename_i r hr;obtain⟨k1,k2⟩:=HS hT hs (c:= []) hr;exact JD h hs hd (k1 hv) k2 hn
   ·exact xM h hs hd (DV hT hs hv o) hn
 ·rename_i j wt hg;split at h
  ·rename_i s kC;have W7:=x0 (tmps:=a.tmps) hg kC;split at h
   ·rename_i c hc;have pI:=vY hs 8 hc kC;have two:(a.tmps[s]? =some (.bool wt)→o.wp P a w next Q)→(a.tmps[s]? ≠some (.bool wt)→next (a.put o.dst undef) w)→
      (Region.wanted o (yielded ops a.tmps)=true→o.wp P a w next Q)∧(Region.wanted o (yielded ops a.tmps)=false→next (a.put o.dst undef) w):=
     fun h1 h2=>⟨fun e=>h1 (W7.1 e),fun e=>h2 (fun agm=>by rw[W7.2 agm]at e;cases e)⟩
    split at h
    ·rename_i x ho;have cn:(execOp a.eval o).run P w= .ok (.value (a.eval x)) w:=by simp[execOp,ho]
     have h:gX S o.dst c (some (s,wt)) (.val (bO T S c o.type x).lf) K:=by
      split at h
      ·exact h.elim
      ·exact h
     obtain⟨k1,k2⟩:=lR (P:=P) (Q:=Q) h hs hd (ke (jP _)) hn;refine two (fun hw=>k1 (pI hw) hw ⟨_,cn,?_⟩) k2;exact(bN hT hs (pI hw) o.type x).lf
    ·rename_i t x ho;split at h
     ·rename_i l sz k off he;obtain⟨k1,k2⟩:=Gk (P:=P) (Q:=Q) hT hs ho h hd hn;refine two (fun hw=>k1 (pI hw) hw ?_) k2;have hX:=bN hT hs (pI hw) 0 x;rw[he]at hX;exact hX
     ·rename_i l i sz k off he;obtain⟨k1,k2⟩:=Gm (P:=P) (Q:=Q) hT hs ho h hd hn;refine two (fun hw=>k1 (pI hw) hw ?_) k2;have hX:=bN hT hs (pI hw) 0 x;rw[he]at hX;exact hX
     have vwK:∀(l:Loc) (off sz m:Nat) (b:er),S.bx l=some b→gX S o.dst c (some (s,wt)) (.val (.vw l off sz m)) (fun S=>K ⟨S.get,S.bx,S.lock,true⟩)→gX ⟨S.get,S.bx,S.lock,true⟩ o.dst c (some (s,wt)) (.val (.vw l off sz m)) K:=by
      intro l off sz m b _ h;have h:bT (S.cA s) o.dst (.fS s wt (.vw l off sz m)) (fun S=>K ⟨S.get,S.bx,S.lock,true⟩):=h;show bT (St.cA ⟨S.get,S.bx,S.lock,true⟩ s) o.dst (.fS s wt (.vw l off sz m)) K;cases cE:o.dst with
      | none=>rw[cE]at h;exact h
      | some d=>rw[cE]at h;exact h
     refine two (fun hw=>?_) (fun hw=>?_)
     ·obtain⟨v,y,cn,⟨h1,h2⟩ | ⟨l,off,sz,rows,b,hb,rr,hv,_⟩ | ⟨l,off,sz,m,b,hb,hv,h1,h2⟩⟩:=BV hT hs ho (bN hT hs (pI hw) 0 x) h
      ·exact(lR (P:=P) (Q:=Q) h1 hs hd (ke h2.uK) hn).1 (pI hw) hw ⟨y,cn,h2⟩
      ·have rr:=rr.1;unfold sS at rr;split at rr<;>cases rr
      ·subst hv;exact(m9 (P:=P) (Q:=Q) (vwK l off sz m b hb h1) hs.xc hd (fun age e=>by cases e;exact⟨rfl,b,hb⟩) hn).1 (pI hw) hw ⟨y,cn,h2⟩
     ·
      have key:∀v,dh v=none→gX S o.dst c (some (s,wt)) (.val v) K→next (a.put o.dst undef) w:=fun v hvx hv=>(lR (P:=P) (o:=o) (Q:=Q) hv hs hd (ke hvx) hn).2 hw
      unfold gp at h;split at h
      ·split at h
       ·split at h
        ·rename_i v hv;exact key _ (na hv) h
        ·exact h.elim
       ·rename_i l off _ ty cs hb;split at h
        ·exact h.elim
        ·cases dJ:T.isAgg t with
         | true=>
          rw[dJ]at h;simp only[cond_true]at h;rename_i i _ _ _;revert h;cases Nat.ble _ _ with
          | false=>intro h;exact h.elim
          | true=>
           intro h;simp only[cond_true]at h;split at h
           ·exact key _ rfl h
           ·exact key _ rfl h
         | false=>
          rw[dJ]at h;simp only[cond_false]at h;split at h
          ·have e:sS [] o.dst=false:=by cases o.dst<;>rfl
           rw[e]at h;simp only[Bool.false_and,cond_false]at h;exact key _ rfl h
          ·revert h;cases T.jH t with
           | false=>intro h;exact h.elim
           | true=>
           intro h;exact(m9 (P:=P) (o:=o) (Q:=Q) (vwK _ _ _ _ _ hb h) hs.xc hd (fun age e=>by cases e;exact⟨rfl,_,hb⟩) hn).2 hw
          ·exact key _ (jP _) h
          ·exact h.elim
       ·exact h.elim
      ·split at h
       ·rename_i v hv;exact key _ (na hv) h
       ·exact h.elim
      ·split at h
       ·cases dJ:T.isAgg t with
        | true=>rw[dJ]at h;exact h.elim
        | false=>rw[dJ]at h;exact key _ (jP _) h
       ·exact h.elim
      ·exact h.elim
    ·rename_i f args tys ho;obtain⟨k1,k2⟩:=sd (P:=P) (Q:=Q) (xs:= #[]++args.map a.eval++ #[]) hT hs h hd hn;refine two (fun hw=>?_) k2;have dZ:args.size=tys.size:=by
      unfold jo at cq;rw[ho,Bool.and_eq_true]at cq;exact beq_true.1 cq.2
     obtain⟨e1,e2⟩:=uV hT hs (pI hw) dZ;exact k1 (pI hw) hw (fun cq=>tv ho (p:= #[]) (q:= #[]) rfl cq) (by simpa using e1) (by simpa using e2)
    ·rename_i agb args tys ho;split at h
     ·rename_i f us vs hf;have dZ:args.size=tys.size:=by
       unfold jo at cq;rw[ho,Bool.and_eq_true]at cq;exact beq_true.1 cq.2
      refine two (fun hw=>?_) (sd (P:=P) (Q:=Q) (xs:= #[]) hT hs h hd hn).2;obtain⟨e1,e2⟩:=uV hT hs (pI hw) dZ;have lp:=uI (pI hw) (hs.bH agb);rw[hf]at lp;obtain⟨xs,r1,r2,r3⟩:=x7 (P:=P) ho (x:= .tmp agb) lp e1 e2;exact(sd (P:=P) (Q:=Q) (xs:=xs) hT hs h hd hn).1 (pI hw) hw r1 r2 r3
     ·exact h.elim
    ·rename_i t x y ho;obtain⟨k1,k2⟩:=lR (P:=P) (o:=o) (Q:=Q) h hs hd LW hn;exact two (fun hw=>k1 (pI hw) hw (look_ok hT hs (pI hw) ho)) k2
    ·split at h
     ·rename_i r hr;obtain⟨v1,v2⟩:=HS hT hs (c:=c) hr;obtain⟨k1,k2⟩:=m9 (P:=P) (o:=o) (Q:=Q) h hs hd v2 hn;exact two (fun hw=>k1 (pI hw) hw (v1 (pI hw))) k2
     ·obtain⟨k1,k2⟩:=lR (P:=P) (o:=o) (Q:=Q) h hs hd (JH c o).Se hn;exact two (fun hw=>k1 (pI hw) hw (DV hT hs (pI hw) o)) k2
   ·exact h.elim
  ·exact h.elim
end
section
variable {P:Program} {T:TE} {n:Nat} {g0 g g':G} {w0 w w':World} {S:St} {a:Act} {next:Act→World→Prop} {K:St→Prop} {X:BK→Prop}
theorem uW:∀(l:List Oper) (bs:List Bool) (i:Nat) (o:Oper),l[i]? =some o→ ∃b,(kA l bs)[i]? =some (o,b)
 | [],_,i,o,h=>by simp at h
 | p::r,[],0,o,h=>by simp at h;subst h;exact⟨false,rfl⟩
 | p::r,b::bs,0,o,h=>by simp at h;subst h;exact⟨b,rfl⟩
 | p::r,[],i+1,o,h=>by
  obtain⟨b,hb⟩:=uW r [] i o (by simpa using h);exact⟨b,by simpa [kA]using hb⟩
 | p::r,b::bs,i+1,o,h=>by
  obtain⟨b',hb⟩:=uW r bs i o (by simpa using h);exact⟨b',by simpa [kA]using hb⟩
theorem lq:∀(l:List Oper) (bs:List Bool),(kA l bs).length=l.length
 | [],_=>rfl
 | _::r,[]=>by simp[kA,lq r []]
 | _::r,b::bs=>by simp[kA,lq r bs]
theorem pR{l:List Oper}(h:gU n l=true){i:Nat}{o:Oper}(hi:l[i]? =some o):jo n o=true:=by
 induction l generalizing i with
 | nil=>simp at hi
 | cons p r ih=>
  unfold gU at h;rw[Bool.and_eq_true]at h;cases i with
  | zero=>simp at hi;subst hi;exact h.1
  | succ i=>exact ih h.2 (by simpa using hi)
theorem vZ(hT:bw P T){ops:Array Oper}(cq:gU n ops.toList=true){apps:List Nat}{Q:Exit→Act→World→Prop} :∀(σ:List Nat) (l:List (Oper×Bool)),l.length=σ.length→(∀(j i:Nat),σ[j]? =some i→ ∃b o,ops[i]? =some o∧l[j]? =some (o,b))→
  ∀(S:St) (g:G) (a:Act) (w:World) (K:St→Prop),bR T n g0 w0 S g a w→mK T (fA P T) ops.toList apps l S K→Rest T n g0 w0 K (Q .normal)→wpOps P ops Q σ a w
 | [],l,hl,hi,S,g,a,w,K,hs,h,hn=>by
  cases l with
  | nil=>exact hn S g a w h hs
  | cons p r=>simp at hl
 | i::σ,l,hl,hi,S,g,a,w,K,hs,h,hn=>by
  cases l with
  | nil=>simp at hl
  | cons p r=>
   obtain⟨b,o,ho,hp⟩:=hi 0 i rfl;simp only[List.getElem?_cons_zero,Option.some.injEq]at hp;subst hp;unfold mK at h;have zT:=pR cq (i:=i) (o:=o) (by rw[Array.getElem?_toList];exact ho);obtain⟨k1,k2⟩:=pQ (Q:=Q) (next:=wpOps P ops Q σ) hT hs zT h (fun agj g' agd w' hK gu=>vZ hT cq σ r (by simpa using hl) (fun j i hj=>by
    have:=hi (j+1) i (by simpa using hj);simpa using this) agj g' agd w' K gu hK hn)
   unfold wpOps;rw[ho];simp only;split
   ·rename_i hw;exact .inl (k1 hw)
   ·rename_i hw;exact k2 (by simpa using hw)
theorem bR.unlock(hs:bR T n g0 w0 S g a w):bR T n g0 w0 S.unlock g a w:=by
 have hg:∀t,S.unlock.get t=(match S.get t with | .cp _ sz rows=> .p (.sl sz rows) | .fS _ _ _=> .dead | .vw _ _ _ _=> .dead | .el _ _ _ _ _=> .dead | v=>v):=fun _=>rfl
 have nv:∀t,eu (S.unlock.get t)=none:=fun t=>by
  rw[hg];cases h:S.get t<;>rfl
 have no:∀t q sz rows,S.unlock.get t≠ .cp q sz rows:=fun t q sz rows e=>by
  rw[hg]at e;cases h:S.get t<;>rw[h]at e<;>cases e
 have adN:∀t s wt v,S.unlock.get t≠ .fS s wt v:=fun t s wt v e=>by
  rw[hg]at e;cases h:S.get t<;>rw[h]at e<;>cases e
 exact {
  defers:=hs.defers
  size:=hs.size
  bH:=fun t=>by
   have:=hs.bH t;rw[hg];cases h:S.get t with
   | cp q sz rows=>rw[h]at this;exact aA.p this.1
   | fS s wt v=>exact aA.dead _
   | vw l i sz m=>exact aA.dead _
   | el l i sz k o=>exact aA.dead _
   | _=>rw[h]at this;exact this
  boxes:=hs.boxes
  fresh:=hs.fresh
  dc:=fun t s sz rows e=>(no _ _ _ _ e).elim
  aJ:=fun t l e=>by rw[nv]at e;cases e
  dm:=fun t sz rows=>no _ _ _ _
  de:=fun t s wt v e=>(adN _ _ _ _ e).elim
  live:=hs.live
  frame:=hs.frame}
theorem sf{ops:List Oper}{apps:List Nat}(hs:bR T n g0 w0 S g a w)(h:re ops apps K S)(hn:Rest T n g0 w0 K next):next a w:=by
 unfold re at h;split at h
 ·exact hn _ _ _ _ h hs
 ·exact hn _ _ _ _ h hs.unlock
theorem B7(hT:bw P T){ops:Array Oper}(cq:gU n ops.toList=true){id:Nat}{Q:Exit→Act→World→Prop}(hs:bR T n g0 w0 S g a w)(h:jk T (fA P T) ops.toList false S K)(hn:Rest T n g0 w0 K (Q .normal)):
  (Code.region id ops false).wp P Q a w:=by
 refine wp_region ?_;refine vZ hT cq _ _ ?_ ?_ S g a w _ hs h (fun agj g' agd w' hK gu=>sf gu hK hn)
 ·simp[lq]
 ·intro j i hj;have Gp:j=i∧j<ops.size:=by
   rw[List.getElem?_eq_some_iff]at hj;obtain⟨h1,h2⟩:=hj;simp at h1 h2;exact⟨h2,h1⟩
  obtain⟨rfl,aN⟩:=Gp;have ho:ops[j]? =some ops[j]:=Array.getElem?_eq_getElem aN;obtain⟨b,hb⟩:=uW ops.toList [] j _ (by rw[Array.getElem?_toList];exact ho);exact⟨b,_,ho,hb⟩
def G.bM(g:G)(ls:List Loc):G:=⟨g.H,fun b=>match g.K b with
  | .box (.own k)=>(match rb ls (.own k)with | true=> .box (.own k) | false=> .none)
  | k=>k,g.B,g.D⟩
theorem jg{ls:List Loc}{l:Loc}(hl:l∈ls)(h:g.K (g.B l)= .box l):(g.bM ls).K (g.B l)= .box l:=by
 simp only[G.bM,h];cases l with
 | own k=>simp[je.2 hl]
 | ext j=>rfl
theorem Me{ls:List Loc}{b j:Nat}(h:g.K b= .box (.ext j)):(g.bM ls).K b= .box (.ext j):=by
 simp only[G.bM,h]
theorem AE{ls:List Loc}{b:Nat}{q:Place}(h:g.K b= .cw q):(g.bM ls).K b= .cw q:=by
 simp only[G.bM,h]
theorem uX{ls:List Loc}{b:Nat}(h:g.K b= .none):(g.bM ls).K b= .none:=by
 simp only[G.bM,h]
theorem Mf{ls:List Loc}{b k:Nat}(h:(g.bM ls).K b= .box (.own k)):g.K b= .box (.own k)∧Loc.own k∈ls:=by
 simp only[G.bM]at h;split at h
 ·rename_i agc hk;split at h
  ·rename_i hm;cases h;exact⟨hk,je.1 hm⟩
  ·cases h
 ·rename_i dA;exact absurd h (dA k)
theorem qG{α:Type}{l:List α}{p:α→Bool}(h:l.all p=true){i:Nat}{x:α}(hi:l[i]? =some x):p x=true:=List.all_eq_true.1 h x (List.mem_of_getElem? hi)
theorem x8{ls:List Loc} :∀(m:Nat) {v:AV} {x:Value},fY ls m v=true→aA g w v x→aA (g.bM ls) w v x:=by
 intro m;induction m with
 | zero=>intro v x h;cases h
 | succ m ih=>
  intro v x h hv;unfold fY at h;cases hv with
  | p h1=>exact .p h1
  | agg h1=>exact .agg h1
  | mix h1 h2=>exact .mix h1 (fun j u y hu hy=>ih (qG h hu) (h2 j u y hu hy))
  | dE h1 h2=>exact .dE h1 (fun j u y hu hy=>ih (qG h hu) (h2 j u y hu hy))
  | @ptr l b off h1 h2=>
   subst h1;exact .ptr rfl (jg (je.1 h) h2)
  | ro h1 h2=>exact .ro h1 h2
  | gm=>exact .gm
  | aP=>exact .aP
  | fD=>exact .fD
  | fn h1 h2 h3 h4=>
   simp only[Bool.and_eq_true]at h;exact .fn h1 (fun j u y hu hy=>ih (qG h.1 hu) (h2 j u y hu hy)) h3 (fun j u y hu hy=>ih (qG h.2 hu) (h4 j u y hu hy))
  | xz xs h1 h2 h3 h4=>exact .xz xs h1 h2 h3 (fun j u hu=>ih (qG h hu) (h4 j u hu))
  | iX h1 h2 h3=>exact .iX h1 h2 (ih h h3)
  | bs h1 h2 h3=>
   subst h1;exact .bs rfl (jg (je.1 h) h2) h3
  | bp h1 h2=>
   subst h1;exact .bp rfl (jg (je.1 h) h2)
  | dF h1 h2=>
   subst h1;exact .dF rfl (jg (je.1 h) h2)
  | iA sz=>exact .iA sz
  | @yl l b vs xs h1 h2 h3 h4=>
   simp only[Bool.and_eq_true]at h;subst h1;exact .yl rfl (jg (je.1 h.1) h2) h3 (fun j u y hu hy=>ih (qG h.2 hu) (h4 j u y hu hy))
  | fI h1 h2 h3=>exact .fI h1 h2 h3
  | dead x=>exact .dead x
theorem dG.bM{ls:List Loc}{q:Place}{sz:Nat}{rows:List (List PV)}{x:Value}(h:dG g w q sz rows x):dG (g.bM ls) w q sz rows x:=dG.V5 (g:=g) rfl (fun b hb=>AE hb) h
theorem fZ.bM{ls:List Loc}{q:Place}{sz:Nat}{rows:List (List PV)}{x:Value}(h:fZ g w q sz rows x):fZ (g.bM ls) w q sz rows x:=fZ.V5 (g:=g) rfl (fun b hb=>AE hb) h
theorem JX{ls:List Loc}{t:Nat}{v:AV}{x:Value}{tmps:Array Value}(h:mg g w tmps t v x):mg (g.bM ls) w tmps t (pz ls v) x:=by
 have gen:∀v,aA g w v x→mg (g.bM ls) w tmps t (bif fY ls 6 v then v else .dead) x:=fun v hv=>by
  cases hp:fY ls 6 v with
  | true=>exact .of (x8 6 hp hv)
  | false=>exact aA.dead _
 cases v with
 | cp q sz rows=>exact aA.p h.1
 | own sz rows=>exact dG.bM h
 | mo sz rows=>exact fZ.bM h
 | vw l i sz m=>exact aA.dead _
 | el l i sz k o=>exact aA.dead _
 | fS s wt v=>exact aA.dead _
 | _=>exact gen _ h
theorem Gq{ls:List Loc}{l:Loc}{i:Nat}{v:AV}{x:Value}(h:fk g w l i v x):fk (g.bM ls) w l i (pz ls v) x:=by
 have gen:∀v,aA g w v x→fk (g.bM ls) w l i (bif fY ls 6 v then v else .dead) x:=fun v hv=>by
  cases hp:fY ls 6 v with
  | true=>
   have:=x8 6 hp hv;cases this<;>(simp only[cond_true,fk];constructor<;>assumption)
  | false=>exact aA.dead _
 cases v with
 | cp q sz rows=>exact(aA.lQ h).elim
 | own sz rows=>exact dG.bM h
 | mo sz rows=>exact fZ.bM h
 | fS s wt v=>exact aA.dead _
 | _=>exact gen _ h
theorem JY{ls:List Loc}{v:AV} :(∀q sz rows,pz ls v≠ .cp q sz rows)∧ ∀s wt u,pz ls v≠ .fS s wt u:=by
 have gen:∀v,fY ls 6 v=true→(∀q sz rows,v≠ .cp q sz rows)∧(∀s wt u,v≠ .fS s wt u):=fun v hv=>
  ⟨fun q sz rows e=>(by subst e;cases hv),fun s wt u e=>(by subst e;cases hv)⟩
 have aai:∀v,(∀q sz rows,(bif fY ls 6 v then v else AV.dead)≠ .cp q sz rows)∧ ∀s wt u,(bif fY ls 6 v then v else AV.dead)≠ .fS s wt u:=fun v=>by
  cases hp:fY ls 6 v with
  | true=>exact gen v hp
  | false=>exact⟨fun _ _ _ e=>(by cases e),fun _ _ _ e=>(by cases e)⟩
 have hv:=aai v;cases v with
 | cp q sz rows=>exact⟨fun _ _ _ e=>(by cases e),fun _ _ _ e=>(by cases e)⟩
 | _=>exact hv
theorem JZ{ls:List Loc}{v:AV} :eu (pz ls v)=none:=by
 have gen:eu (bif fY ls 6 v then v else AV.dead)=none:=by
  cases hp:fY ls 6 v with
  | true=>cases v<;>first | rfl | cases hp
  | false=>rfl
 cases v with
 | cp q sz rows=>rfl
 | _=>exact gen
theorem Ef{ls:List Loc}{l:Loc}{b:er}(hl:l∈ls)(h:iB T g w l b):iB T (g.bM ls) w l (BJ ls b):=by
 cases b with
 | pure ty cs=>
  obtain⟨k1,k2,xs,t,k3,k4,k5⟩:=h;exact⟨jg hl k1,k2,xs,t,k3,k4,k5⟩
 | mix ty cs=>
  obtain⟨k1,k2,xs,t,k3,k4,k5,k6⟩:=h;refine⟨jg hl k1,k2,xs,t,k3,k4,by simpa using k5,fun i v x hv hx=>?_⟩;rw[List.getElem?_map]at hv;obtain⟨u,hu,rfl⟩:=Option.map_eq_some_iff.1 hv;exact Gq (k6 i u x hu hx)
 | mp ag es=>
  obtain⟨k1,k2,xs,c,k3,k4⟩:=h;exact⟨jg hl k1,k2,xs,c,k3,k4⟩
 | rows sz rows=>
  obtain⟨k1,k2,xs,t,k3,k4⟩:=h;exact⟨jg hl k1,k2,xs,t,k3,k4⟩
 | ob o=>exact⟨jg hl h.1,h.2.1,h.2.2⟩
theorem x9(S:St)(ls:List Loc)(t:Nat):∀(ts:List Nat),mkGet (Ag S ls ts) t=pz ls (S.get t)∨mkGet (Ag S ls ts) t= .dead
 | []=> .inr rfl
 | s::r=>by
  show(bif Nat.beq s t then pz ls (S.get s)else mkGet (Ag S ls r) t)=_∨(bif Nat.beq s t then pz ls (S.get s)else mkGet (Ag S ls r) t)=_;cases hb:Nat.beq s t with
  | true=>rw[beq_true.1 hb];exact .inl rfl
  | false=>exact x9 S ls t r
theorem uY(S:St)(ls:List Loc)(l:Loc):∀(ms:List Loc),(∀b,FQ (Ah S ls ms) l=some b→l∈ms∧ ∃b',S.bx l=some b'∧b=BJ ls b')∧(l∈ms→ ∀b',S.bx l=some b'→ ∃b,FQ (Ah S ls ms) l=some b)
 | []=>⟨fun b h=>(by cases h),fun h=>(by cases h)⟩
 | m::r=>by
  obtain⟨i1,i2⟩:=uY S ls l r;unfold Ah;cases hm:S.bx m with
  | none=>
   refine⟨fun b h=>?_,fun h b' mi=>?_⟩
   ·obtain⟨h1,h2⟩:=i1 b h;exact⟨List.mem_cons_of_mem _ h1,h2⟩
   ·rw[List.mem_cons]at h;rcases h with rfl | h
    ·rw[hm]at mi;cases mi
    ·exact i2 h b' mi
  | some c=>
   simp only;unfold FQ;cases he:Loc.mI m l with
   | true=>
    have:=Loc.fJ.1 he;subst this;refine⟨fun b h=>?_,fun h b' mi=>⟨_,rfl⟩⟩;simp only[cond_true,Option.some.injEq]at h;exact⟨List.mem_cons_self,c,hm,h.symm⟩
   | false=>
    simp only[cond_false];refine⟨fun b h=>?_,fun h b' mi=>?_⟩
    ·obtain⟨h1,h2⟩:=i1 b h;exact⟨List.mem_cons_of_mem _ h1,h2⟩
    ·rw[List.mem_cons]at h;rcases h with rfl | h
     ·exact absurd rfl (Loc.lE.1 he)
     ·exact i2 h b' mi
theorem bR.bM(hs:bR T n g0 w0 S g a w)(h0:∀b k,g0.K b≠ .box (.own k))(ts:List Nat)(ls:List Loc):bR T n g0 w0 (S.bM ts ls) (g.bM ls) a w:=by
 have wT:∀t,(S.bM ts ls).get t=pz ls (S.get t)∨(S.bM ts ls).get t= .dead:=fun t=>x9 S ls t ts
 have sg:∀t,(∀q sz rows,(S.bM ts ls).get t≠ .cp q sz rows)∧ ∀s wt u,(S.bM ts ls).get t≠ .fS s wt u:=fun t=>by
  rcases wT t with e | e
  ·rw[e];exact JY
  ·rw[e];exact⟨fun _ _ _ e=>(by cases e),fun _ _ _ e=>(by cases e)⟩
 exact {
  defers:=hs.defers
  size:=hs.size
  bH:=fun t=>by
   rcases wT t with e | e
   ·rw[e];exact JX (hs.bH t)
   ·rw[e];exact aA.dead _
  boxes:=fun l b hb=>by
   obtain⟨hl,b',mi,rfl⟩:=(uY S ls l ls).1 b hb;exact Ef hl (hs.boxes l b' mi)
  fresh:=fun b hb=>⟨(hs.fresh b hb).1,uX (hs.fresh b hb).2⟩
  dc:=fun t s sz rows e=>((sg t).1 _ _ _ e).elim
  aJ:=fun t l e=>by
   rcases wT t with agm | agm
   ·rw[agm,JZ]at e;cases e
   ·rw[agm]at e;cases e
  dm:=fun t sz rows=>(sg t).1 _ _ _
  de:=fun t s wt v e=>((sg t).2 _ _ _ e).elim
  live:=fun k hk=>by
   obtain⟨h1,h2⟩:=Mf hk;obtain⟨b,hb⟩:=hs.live k h1;exact(uY S ls (.own k) ls).2 h2 b hb
  frame:= {
   os:=hs.frame.os
   tape:=hs.frame.tape
   fz:=hs.frame.fz
   output:=hs.frame.output
   size:=hs.frame.size
   bM:=fun b hb hk=>by
    obtain⟨h1,h2,h3⟩:=hs.frame.bM b hb hk;exact⟨h1,h2,uX h3⟩
   ge:=⟨hs.frame.ge.ext,fun l hl=>by
    obtain⟨h1,h2⟩:=hs.frame.ge.box l hl;refine⟨h1,?_⟩;cases l with
    | own k=>exact absurd hl (h0 _ k)
    | ext j=>exact Me h2⟩}}
end
structure Dl where
 pg:Nat→Option AV
 lk:Nat→Bool
 pb:Loc→Option er
 lb:Bool
def Dl.app(δ:Dl)(S:St):St:=⟨fun t=>match δ.pg t with | some v=>v | none=>S.get t,fun l=>match δ.pb l with | some b=>some b | none=>S.bx l,fun t=>δ.lk t||S.lock t,δ.lb||S.aJ⟩
def Dl.nil:Dl:=⟨fun _=>none,fun _=>false,fun _=>none,false⟩
def Dl.put(δ:Dl)(d:Nat)(v:AV):Dl:=⟨fun t=>bif Nat.beq d t then some v else δ.pg t,δ.lk,δ.pb,δ.lb⟩
def Dl.cA(δ:Dl)(s:Nat):Dl:=⟨δ.pg,fun t=>bif Nat.beq s t then true else δ.lk t,δ.pb,δ.lb⟩
def Dl.bK(δ:Dl)(l:Loc)(b:er):Dl:=⟨δ.pg,δ.lk,fun m=>bif Loc.mI l m then some b else δ.pb m,δ.lb⟩
def Dl.HW(δ:Dl):Dl:=⟨δ.pg,δ.lk,δ.pb,true⟩
theorem St.ext'{S agj:St}(h1:∀t,S.get t=agj.get t)(h2:∀l,S.bx l=agj.bx l)(h3:∀t,S.lock t=agj.lock t)(h4:S.aJ=agj.aJ):S=agj:=by
 obtain⟨a,b,c,d⟩:=S;obtain⟨agd,b',agp,agA⟩:=agj;congr
 ·exact funext h1
 ·exact funext h2
 ·exact funext h3
theorem Dl.dw(S:St):Dl.nil.app S=S:=by
 refine St.ext' (fun _=>rfl) (fun _=>rfl) (fun t=>?_) ?_
 ·show(false||S.lock t)=_;simp
 ·show(false||S.aJ)=_;simp
theorem Dl.dx(δ:Dl)(d:Nat)(v:AV)(S:St):(δ.put d v).app S=(δ.app S).put d v:=by
 refine St.ext' (fun t=>?_) (fun _=>rfl) (fun _=>rfl) rfl;show(match(bif Nat.beq d t then some v else δ.pg t)with | some v=>v | none=>S.get t)=bif Nat.beq d t then v else _;cases Nat.beq d t<;>rfl
theorem Dl.qH(δ:Dl)(s:Nat)(S:St):(δ.cA s).app S=(δ.app S).cA s:=by
 refine St.ext' (fun _=>rfl) (fun _=>rfl) (fun t=>?_) rfl;show((bif Nat.beq s t then true else δ.lk t)||S.lock t)=bif Nat.beq s t then true else _;cases Nat.beq s t<;>simp[Dl.app]
theorem Dl.dV(δ:Dl)(l:Loc)(b:er)(S:St):(δ.bK l b).app S=(δ.app S).bK l b:=by
 refine St.ext' (fun _=>rfl) (fun m=>?_) (fun _=>rfl) rfl;show(match(bif Loc.mI l m then some b else δ.pb m)with | some b=>some b | none=>S.bx m)=bif Loc.mI l m then some b else _;cases Loc.mI l m<;>rfl
theorem Dl.lF(δ:Dl)(S:St):δ.HW.app S=⟨(δ.app S).get,(δ.app S).bx,(δ.app S).lock,true⟩:=by
 refine St.ext' (fun _=>rfl) (fun _=>rfl) (fun _=>rfl) ?_;show(true||S.aJ)=true;simp
structure eQ(δ:Dl)(R W:List Nat):Prop where
 get:∀t,δ.pg t≠none→t∈W
 lock:∀t,δ.lk t=true→t∈R
structure dy(S agj:St)(R W:List Nat):Prop where
 get:∀t,t∈R∨t∈W→agj.get t=S.get t
 lock:∀t,t∈W→agj.lock t=S.lock t
def aaj(c:BI)(fr:Bool)(d:Option Nat)(S:St)(δ:Dl):Prop:=
 match c with
 | .quiet=>(∀l,δ.pb l=none)∧δ.lb=false
 | .load=>∀l,δ.pb l=none
 | .alloc=>(∀l,δ.pb l≠none→ ∃k,l= .own k∧d=some k)∧δ.lb=false∧ ∀k,d=some k→S.bx (.own k)=none
 | .call=>(fr=true→ ∀l,δ.pb l=none)∧δ.lb=false
 | .store=>δ.lb=false
 | .fN=>False
def HX(c:BI)(fr:Bool)(d:Option Nat)(S agj:St):Prop:=
 match c with
 | .quiet=>True
 | .load=>∀l b,S.bx l=some b→agj.bx l=some b
 | .alloc=>∀k,d=some k→agj.bx (.own k)=S.bx (.own k)
 | .call=>fr=false→agj.bx=S.bx∧agj.aJ=S.aJ
 | .store=>agj.bx=S.bx∧agj.aJ=S.aJ
 | .fN=>False
def gI(F:St→(St→Prop)→Prop)(R W:List Nat)(c:BI)(fr:Bool)(d:Option Nat)(S:St)(K:St→Prop):Prop:=
 ∃δ:Dl,eQ δ R W∧aaj c fr d S δ∧K (δ.app S)∧ ∀agj,dy S agj R W→HX c fr d S agj→ ∀agi:St→Prop,agi (δ.app agj)→F agj agi
section
variable {S agj:St} {K:St→Prop} {R W:List Nat} {c:BI} {fr:Bool} {T:TE}
theorem pS{δ:Dl}{d:Option Nat}{v:AV}(h:bT (δ.app S) d v K)(hw:eQ δ R W)(hd:∀e,d=some e→e∈W):
  ∃W8:Dl,eQ W8 R W∧W8.pb=δ.pb∧W8.lb=δ.lb∧K (W8.app S)∧ ∀agj,dy S agj R W→ ∀agi:St→Prop,agi (W8.app agj)→bT (δ.app agj) d v agi:=by
 cases d with
 | none=>exact⟨δ,hw,rfl,rfl,h,fun agj _ agi agl=>agl⟩
 | some d=>
  obtain⟨hl,hk⟩:=bP h;refine⟨δ.put d v,⟨fun t ht=>?_,hw.lock⟩,rfl,rfl,by rw[Dl.dx];exact hk,fun agj hA agi b9=>?_⟩
  ·by_cases e:d=t
   ·rw[←e];exact hd d rfl
   ·refine hw.get t (fun h=>ht ?_);show(bif Nat.beq d t then some v else δ.pg t)=none;rw[beq_false.2 e];exact h
  ·rw[Dl.dx]at b9;show(bif(δ.lk d||agj.lock d)then False else agi ((δ.app agj).put d v));have hl:(δ.lk d||S.lock d)=false:=hl;rw[hA.lock d (hd d rfl),hl];exact b9
theorem eR:eQ Dl.nil R W:=⟨fun t h=>absurd rfl h,fun t h=>by cases h⟩
theorem eX{d:Option Nat}{v:AV}(h:bT S d v K)(hd:∀e,d=some e→e∈W):
  ∃δ:Dl,eQ δ R W∧(∀l,δ.pb l=none)∧δ.lb=false∧K (δ.app S)∧ ∀agj,dy S agj R W→ ∀agi:St→Prop,agi (δ.app agj)→bT agj d v agi:=by
 obtain⟨δ,h1,h2,h3,h4,h5⟩:=pS (δ:= .nil) (S:=S) (R:=R) (W:=W) (by rw[Dl.dw];exact h) eR hd;refine⟨δ,h1,fun l=>by rw[h2];rfl,by rw[h3];rfl,h4,fun agj hA agi b9=>?_⟩;have:=h5 agj hA agi b9;rw[Dl.dw]at this;exact this
theorem qI{d:Option Nat}{s:Nat}{v:AV}(h:bT (S.cA s) d v K)(hs:s∈R)(hd:∀e,d=some e→e∈W):
  ∃δ:Dl,eQ δ R W∧(∀l,δ.pb l=none)∧δ.lb=false∧K (δ.app S)∧ ∀agj,dy S agj R W→ ∀agi:St→Prop,agi (δ.app agj)→bT (agj.cA s) d v agi:=by
 have e:∀S:St,(Dl.nil.cA s).app S=S.cA s:=fun S=>by rw[Dl.qH,Dl.dw]
 obtain⟨δ,h1,h2,h3,h4,h5⟩:=pS (δ:=Dl.nil.cA s) (S:=S) (R:=R) (W:=W) (by rw[e];exact h) ⟨fun t h=>absurd rfl h,fun t h=>by
  have h:(bif Nat.beq s t then true else false)=true:=h;cases hb:Nat.beq s t with
  | true=>rw[←beq_true.1 hb];exact hs
  | false=>rw[hb]at h;cases h⟩ hd
 refine⟨δ,h1,fun l=>by rw[h2];rfl,by rw[h3];rfl,h4,fun agj hA agi b9=>?_⟩;have:=h5 agj hA agi b9;rw[e]at this;exact this
theorem qJ{d:Option Nat}{ch:bq}{gs:Option (Nat×Bool)}{r:nC}(h:gX S d ch gs r K)(hg:∀s w,gs=some (s,w)→s∈R)(hd:∀e,d=some e→e∈W):
  ∃δ:Dl,eQ δ R W∧(∀l,δ.pb l=none)∧δ.lb=false∧K (δ.app S)∧ ∀agj,dy S agj R W→ ∀agi:St→Prop,agi (δ.app agj)→gX agj d ch gs r agi:=by
 cases gs with
 | none=>
  cases r with
  | no=>exact h.elim
  | val v=>
   obtain⟨δ,h1,h2,h3,h4,h5⟩:=eX (R:=R) ((a9 v fun v=>bT S d v K).1 h) hd;exact⟨δ,h1,h2,h3,h4,fun agj hA agi hk=>(a9 v fun v=>bT agj d v agi).2 (h5 agj hA agi hk)⟩
  | ka p v=>
   obtain⟨δ,h1,h2,h3,h4,h5⟩:=eX (R:=R) ((a9 v fun v=>bT S d v K).1 h.2) hd;exact⟨δ,h1,h2,h3,h4,fun agj hA agi hk=>⟨h.1,(a9 v fun v=>bT agj d v agi).2 (h5 agj hA agi hk)⟩⟩
  | qZ p v=>
   obtain⟨z,hp,h⟩:=h;obtain⟨δ,h1,h2,h3,h4,h5⟩:=eX (R:=R) h hd;exact⟨δ,h1,h2,h3,h4,fun agj hA agi hk=>⟨z,hp,h5 agj hA agi hk⟩⟩
  | Ae p v=>
   obtain⟨z,hp,h⟩:=h;obtain⟨δ,h1,h2,h3,h4,h5⟩:=eX (R:=R) h hd;exact⟨δ,h1,h2,h3,h4,fun agj hA agi hk=>⟨z,hp,h5 agj hA agi hk⟩⟩
  | DE p v=>
   obtain⟨z,hp,h⟩:=h;obtain⟨δ,h1,h2,h3,h4,h5⟩:=eX (R:=R) h hd;exact⟨δ,h1,h2,h3,h4,fun agj hA agi hk=>⟨z,hp,h5 agj hA agi hk⟩⟩
 | some sw=>
  obtain⟨s,w⟩:=sw;have hs:=hg s w rfl;cases r with
  | no=>exact h.elim
  | val v=>
   obtain⟨δ,h1,h2,h3,h4,h5⟩:=qI ((a9 v fun v=>bT (S.cA s) d (.fS s w v) K).1 h) hs hd;exact⟨δ,h1,h2,h3,h4,fun agj hA agi hk=>(a9 v fun v=>bT (agj.cA s) d (.fS s w v) agi).2 (h5 agj hA agi hk)⟩
  | ka p v=>
   obtain⟨δ,h1,h2,h3,h4,h5⟩:=qI ((a9 v fun v=>bT (S.cA s) d (.fS s w v) K).1 h.2) hs hd;exact⟨δ,h1,h2,h3,h4,fun agj hA agi hk=>⟨h.1,(a9 v fun v=>bT (agj.cA s) d (.fS s w v) agi).2 (h5 agj hA agi hk)⟩⟩
  | qZ p v=>
   obtain⟨z,hp,h⟩:=h;obtain⟨δ,h1,h2,h3,h4,h5⟩:=qI h hs hd;exact⟨δ,h1,h2,h3,h4,fun agj hA agi hk=>⟨z,hp,h5 agj hA agi hk⟩⟩
  | Ae p v=>
   obtain⟨z,hp,h⟩:=h;obtain⟨δ,h1,h2,h3,h4,h5⟩:=qI h hs hd;exact⟨δ,h1,h2,h3,h4,fun agj hA agi hk=>⟨z,hp,h5 agj hA agi hk⟩⟩
  | DE p v=>
   obtain⟨z,hp,h⟩:=h;obtain⟨δ,h1,h2,h3,h4,h5⟩:=qI h hs hd;exact⟨δ,h1,h2,h3,h4,fun agj hA agi hk=>⟨z,hp,h5 agj hA agi hk⟩⟩
theorem gz{l:List Operand}{t:Nat}(h:Operand.tmp t∈l):t∈tmpsOf l:=by
 induction l with
 | nil=>simp at h
 | cons x r ih=>
  cases x with
  | tmp s=>
   rw[List.mem_cons]at h;rcases h with h | h
   ·cases h;exact List.mem_cons_self
   ·exact List.mem_cons_of_mem _ (ih h)
  | _=>
   rw[List.mem_cons]at h;rcases h with h | h
   ·cases h
   ·exact ih h
theorem gg{ch:bq}{ty:TypeId}{x:Operand}{l:List Operand}(hx:x∈l)(hA:∀t,t∈tmpsOf l→agj.get t=S.get t):bO T agj ch ty x=bO T S ch ty x:=by
 cases x with
 | tmp t=>show under ch (agj.get t)=under ch (S.get t);rw[hA t (gz hx)]
 | _=>rfl
theorem tA{ev Sm:Operand→AV}{pl:Nat→Option (Nat×Nat)} :∀(l:List (Nat×Operand)),(∀p,p∈l→Sm p.2=ev p.2)→jK Sm pl l=jK ev pl l
 | [],_=>rfl
 | (i,x)::r,h=>by
  unfold jK;rw[h (i,x) List.mem_cons_self,tA r (fun p hp=>h p (List.mem_cons_of_mem _ hp))]
theorem wc{ev Sm:Operand→AV}{sz:Nat} :∀(l:List (Nat×Operand)) (k:Nat),(∀p,p∈l→Sm p.2=ev p.2)→xD Sm sz k l=xD ev sz k l
 | [],_,_=>rfl
 | (i,x)::r,k,h=>by
  unfold xD;rw[h (i,x) List.mem_cons_self,wc r (k+1) (fun p hp=>h p (List.mem_cons_of_mem _ hp))]
theorem ya{ev Sm:Operand→AV} :∀(l:List (Nat×Operand)) (k:Nat),(∀p,p∈l→Sm p.2=ev p.2)→FP Sm k l=FP ev k l
 | [],_,_=>rfl
 | (i,x)::r,k,h=>by
  unfold FP;rw[h (i,x) List.mem_cons_self,ya r (k+1) (fun p hp=>h p (List.mem_cons_of_mem _ hp))]
theorem AF{ps:Array (Nat×Operand)}{p:Nat×Operand}(h:p∈ps.toList):p.2∈((ps.toList.map (·.2)).toArray).toList:=by
 simp only[List.mem_map];exact⟨p,h,rfl⟩
theorem tB{ch:bq}{o:Oper}(hA:∀t,t∈tmpsOf o.op.operands.toList→agj.get t=S.get t):bn T agj ch o=bn T S ch o:=by
 have ev:∀ty x,x∈o.op.operands.toList→bO T agj ch ty x=bO T S ch ty x:=fun ty x hx=>gg hx hA
 cases ho:o.op with
 | pick cc x y=>
  rw[ho]at ev hA;have h1:=ev 0 cc (by simp[Op.operands]);have h2:=ev o.type x (by simp[Op.operands]);have h3:=ev o.type y (by simp[Op.operands]);have g1:∀t,x= .tmp t→agj.get t=S.get t:=fun t e=>hA t (gz (by simp[Op.operands,e]))
  have g2:∀t,y= .tmp t→agj.get t=S.get t:=fun t e=>hA t (gz (by simp[Op.operands,e]))
  unfold bn;rw[ho];simp only;split
  ·rw[h1];clear h2 h3 hA ev;cases x<;>cases y<;>first | rfl | (dsimp only;rw[g1 _ rfl,g2 _ rfl]) | (dsimp only;rw[g1 _ rfl];rfl) | (dsimp only;rw[g2 _ rfl];rfl)
  ·rfl
 | binOp op t x y yt=>simp only[bn,ho];rw[ev t x (by simp[ho,Op.operands]),ev yt y (by simp[ho,Op.operands])]
 | unOp op t x=>simp only[bn,ho];rw[ev t x (by simp[ho,Op.operands])]
 | fieldAddr t x f=>simp only[bn,ho];rw[ev 0 x (by simp[ho,Op.operands])]
 | field t x f=>simp only[bn,ho];rw[ev t x (by simp[ho,Op.operands])]
 | indexAddr t x i=>simp only[bn,ho];rw[ev t x (by simp[ho,Op.operands]),ev 0 i (by simp[ho,Op.operands])]
 | index t x i=>simp only[bn,ho];rw[ev t x (by simp[ho,Op.operands]),ev 0 i (by simp[ho,Op.operands])]
 | extract x i=>simp only[bn,ho];rw[ev 0 x (by simp[ho,Op.operands])]
 | nilCheck x=>simp only[bn,ho];rw[ev 0 x (by simp[ho,Op.operands])]
 | slice t x lo hi mx=>
  cases mx with
  | some m=>simp only[bn,ho]
  | none=>
   simp only[bn,ho];have e1:lo.map (bO T agj ch 0)=lo.map (bO T S ch 0):=by
    cases lo with
    | none=>rfl
    | some l=>show some _=some _;rw[ev 0 l (by simp[ho,Op.operands])]
   have e2:hi.map (bO T agj ch 0)=hi.map (bO T S ch 0):=by
    cases hi with
    | none=>rfl
    | some l=>show some _=some _;rw[ev 0 l (by simp[ho,Op.operands])]
   have e3:=ev t x (by simp[ho,Op.operands]);show rO T t (bO T agj ch t x) (lo.map (bO T agj ch 0)) (hi.map (bO T agj ch 0))=rO T t (bO T S ch t x) (lo.map (bO T S ch 0)) (hi.map (bO T S ch 0));rw[e1,e2,e3]
 | build t parts=>
  simp only[bn,ho];have hp:∀p,p∈parts.toList→bO T agj ch 0 p.2=bO T S ch 0 p.2:=fun p hp=>ev 0 p.2 (by rw[ho];exact AF hp)
  have e1:∀pl,jK (bO T agj ch 0) pl parts.toList=jK (bO T S ch 0) pl parts.toList:=fun pl=>tA _ hp
  have adO:∀pl,jK (fun x=>bO T agj ch 0 x) pl parts.toList=jK (fun x=>bO T S ch 0 x) pl parts.toList:=e1
  simp only[adO]
 | convert t agh x=>simp only[bn,ho];rw[ev t x (by simp[ho,Op.operands])]
 | makeFunc f x y=>
  cases f with
  | func f=>
   simp only[bn,ho];have e1:(x.toList.map fun x=>(bO T agj ch 0 x).lf)=(x.toList.map fun x=>(bO T S ch 0 x).lf):=List.map_congr_left (fun z hz=>by rw[ev 0 z (by simp[ho,Op.operands];exact .inl (by simpa using hz))]);have e2:(y.toList.map fun x=>(bO T agj ch 0 x).lf)=(y.toList.map fun x=>(bO T S ch 0 x).lf):=List.map_congr_left (fun z hz=>by rw[ev 0 z (by simp[ho,Op.operands];exact .inr (by simpa using hz))]);rw[e1,e2]
  | _=>simp only[bn,ho]
 | call cl=>
  obtain⟨W9,args,tys⟩:=cl;cases W9 with
  | builtin b=>
   cases b with
   | len=>
    simp only[bn,ho];split
    ·rename_i x t hx ht;rw[ev t x (by
      have:x∈args.toList:=by rw[hx];simp
      simp[ho,Op.operands,Call.operands];simpa using this)]
    ·rfl
   | _=>simp only[bn,ho]
  | _=>simp only[bn,ho]
 | _=>simp only[bn,ho]
end
section
variable {S agj:St} {K:St→Prop} {R W:List Nat} {c:BI} {fr:Bool} {T:TE} {J:uF}
def Still(F:St→(St→Prop)→Prop)(R W:List Nat)(S:St)(K:St→Prop):Prop:=
 ∃δ:Dl,eQ δ R W∧(∀l,δ.pb l=none)∧δ.lb=false∧K (δ.app S)∧ ∀agj,dy S agj R W→ ∀agi:St→Prop,agi (δ.app agj)→F agj agi
theorem Still.loc{F:St→(St→Prop)→Prop}{d:Option Nat}(h:Still F R W S K)(hc:c≠ .alloc∧c≠ .fN):gI F R W c fr d S K:=by
 obtain⟨δ,h1,h2,h3,h4,h5⟩:=h;refine⟨δ,h1,?_,h4,fun agj hA _=>h5 agj hA⟩;cases c with
 | quiet=>exact⟨h2,h3⟩
 | load=>exact h2
 | alloc=>exact absurd rfl hc.1
 | call=>exact⟨fun _=>h2,h3⟩
 | store=>exact h3
 | fN=>exact absurd rfl hc.2
theorem Still.congr{F G:St→(St→Prop)→Prop}(h:Still F R W S K)(he:∀agj,dy S agj R W→ ∀agi,F agj agi→G agj agi):Still G R W S K:=by
 obtain⟨δ,h1,h2,h3,h4,h5⟩:=h;exact⟨δ,h1,h2,h3,h4,fun agj hA agi hk=>he agj hA agi (h5 agj hA agi hk)⟩
theorem sh{d:Option Nat}{v:AV}(h:bT S d v K)(hd:∀e,d=some e→e∈W):Still (fun S K=>bT S d v K) R W S K:=eX h hd
theorem lG{d:Option Nat}{ch:bq}{gs:Option (Nat×Bool)}{r:nC}(h:gX S d ch gs r K)(hg:∀s w,gs=some (s,w)→s∈R)(hd:∀e,d=some e→e∈W):Still (fun S K=>gX S d ch gs r K) R W S K:=qJ h hg hd
theorem Gr{apps:List Nat}{d:Option Nat}{x:Operand}{v:AV}(h:oH apps S d x v K)(hx:∀s,x= .tmp s→s∈R)(hd:∀e,d=some e→e∈W):Still (fun S K=>oH apps S d x v K) R W S K:=by
 have gen:∀u,bT S d u K→(∀agj agi,bT agj d u agi→oH apps agj d x v agi)→Still (fun S K=>oH apps S d x v K) R W S K:=fun u hu he=>
  (sh hu hd).congr (fun agj _ agi hk=>he agj agi hk)
 unfold oH at h;have h:=(a9 v _).1 h;cases v with
 | own sz rows=>
  cases x with
  | tmp s=>
   simp only at h;cases hb:sS apps d with
   | false=>
    rw[hb]at h;refine gen _ h (fun agj agi hk=>?_);unfold oH;refine(a9 _ _).2 ?_;simp only;rw[hb];exact hk
   | true=>
    rw[hb]at h;simp only[cond_true]at h;cases d with
    | none=>exact h.elim
    | some d=>
     simp only at h;cases dA:Nat.beq d s with
     | true=>rw[dA]at h;exact h.elim
     | false=>
      rw[dA]at h;simp only[cond_false]at h;obtain⟨hl,hk⟩:=bP h;refine⟨(Dl.nil.put d (.cp (.slot s) sz rows)).cA s,⟨fun t ht=>?_,fun t ht=>?_⟩,fun _=>rfl,rfl,?_,fun agj hA agi b9=>?_⟩
      ·have ht:(bif Nat.beq d t then some (AV.cp (.slot s) sz rows)else none)≠none:=ht;cases iE:Nat.beq d t with
       | true=>rw[←beq_true.1 iE];exact hd d rfl
       | false=>rw[iE]at ht;exact absurd rfl ht
      ·have ht:(bif Nat.beq s t then true else false)=true:=ht;cases iE:Nat.beq s t with
       | true=>rw[←beq_true.1 iE];exact hx s rfl
       | false=>rw[iE]at ht;cases ht
      ·rw[Dl.qH,Dl.dx,Dl.dw];exact hk
      ·rw[Dl.qH,Dl.dx,Dl.dw]at b9;show oH apps agj (some d) (.tmp s) (.own sz rows) agi;unfold oH;refine(a9 _ _).2 ?_;simp only;rw[hb];simp only[cond_true,dA,cond_false];show(bif agj.lock d then False else _);rw[hA.lock d (hd d rfl),hl];exact b9
  | _=>exact gen _ h (fun agj agi hk=>hk)
 | _=>exact gen _ h (fun agj agi hk=>hk)
theorem B8{d:Option Nat}{x:Operand}{v:AV}(h:kr S d x v K)(hx:∀s,x= .tmp s→s∈W)(hd:∀e,d=some e→e∈W):Still (fun S K=>kr S d x v K) R W S K:=by
 have gen:∀u,bT S d u K→(∀agj agi,bT agj d u agi→kr agj d x v agi)→Still (fun S K=>kr S d x v K) R W S K:=fun u hu he=>
  (sh hu hd).congr (fun agj _ agi hk=>he agj agi hk)
 unfold kr at h;have h:=(a9 v _).1 h;cases v with
 | own sz rows=>
  cases x with
  | tmp s=>
   simp only at h;obtain⟨hl,hk⟩:=bP h;have e:∀S:St,(Dl.nil.put s (.p (.sl sz rows))).app S=S.put s (.p (.sl sz rows)):=fun S=>by rw[Dl.dx,Dl.dw]
   obtain⟨δ,h1,h2,h3,h4,h5⟩:=pS (δ:=Dl.nil.put s (.p (.sl sz rows))) (S:=S) (R:=R) (W:=W) (by rw[e];exact hk) ⟨fun t ht=>by
    have ht:(bif Nat.beq s t then some (AV.p (.sl sz rows))else none)≠none:=ht;cases iE:Nat.beq s t with
    | true=>rw[←beq_true.1 iE];exact hx s rfl
    | false=>rw[iE]at ht;exact absurd rfl ht,fun t ht=>by cases ht⟩ hd
   refine⟨δ,h1,fun l=>by rw[h2];rfl,by rw[h3];rfl,h4,fun agj hA agi b9=>?_⟩;have h6:=h5 agj hA agi b9;rw[e]at h6;show kr agj d (.tmp s) (.own sz rows) agi;unfold kr;refine(a9 _ _).2 ?_;show(bif agj.lock s then False else _);rw[hA.lock s (hx s rfl),hl];exact h6
  | _=>exact gen _ h (fun agj agi hk=>hk)
 | _=>exact gen _ h (fun agj agi hk=>hk)
def PL:AV→Option Loc
 | .ptr l _=>some l
 | _=>none
def uZ:AV→Bool
 | .own _ _=>false
 | .mo _ _=>false
 | .cp _ _ _=>false
 | .fS _ _ _=>false
 | .vw _ _ _ _=>false
 | .el _ _ _ _ _=>false
 | _=>true
theorem js(v:AV):uZ v.lf=true:=by cases v<;>rfl
theorem ig{T:TE}{t:TypeId}{n o:Nat}{cs:List PV}{v:AV}(h:mX T t n cs o=some v):uZ v=true:=by
 unfold mX at h;split at h
 ·cases hb:T.isAgg t with
  | true=>
   rw[hb]at h;simp only[cond_true]at h;revert h;cases(Nat.beq _ _&&Nat.beq o 0)with
   | true=>intro h;cases h;rfl
   | false=>
    cases Nat.ble _ _ with
    | true=>intro h;cases h;rfl
    | false=>intro h;cases h
  | false=>
   rw[hb]at h;simp only[cond_false]at h;split at h
   ·cases h;rfl
   ·cases h
 ·cases h
theorem nP{apps:List Nat}{d:Option Nat}{t:TypeId}{u:AV}{KK:St→AV→(St→Prop)→Prop}(h:gp T apps S d t u (KK S) K):
  ∃v,(KK S v K∧uZ v=true∧ ∀agj,(∀l b,PL u=some l→S.bx l=some b→agj.bx l=some b)→ ∀agi,KK agj v agi→gp T apps agj d t u (KK agj) agi)∨
   (KK S v (fun S=>K ⟨S.get,S.bx,S.lock,true⟩)∧T.jH t=true∧ ∀agj,(∀l b,PL u=some l→S.bx l=some b→agj.bx l=some b)→ ∀agi,KK agj v (fun S=>agi ⟨S.get,S.bx,S.lock,true⟩)→gp T apps agj d t u (KK agj) agi):=by
 unfold gp at h;split at h
 ·rename_i l off;split at h
  ·rename_i ty cs hb;split at h
   ·rename_i v hv;refine⟨v,.inl ⟨h,(by first | rfl | exact js _ | exact ig (by assumption)),fun agj hB agi hk=>?_⟩⟩;unfold gp;simp only[hB l _ rfl hb,hv];exact hk
   ·exact h.elim
  ·rename_i ty cs hb;split at h
   ·exact h.elim
   ·rename_i i hi;cases dJ:T.isAgg t with
    | true=>
     rw[dJ]at h;simp only[cond_true]at h;cases hle:Nat.ble (off+i.size) (T.size ty)with
     | false=>rw[hle]at h;exact h.elim
     | true=>
      rw[hle]at h;simp only[cond_true]at h;split at h
      ·rename_i ps j4;refine⟨_,.inl ⟨h,(by first | rfl | exact js _ | exact ig (by assumption)),fun agj hB agi hk=>?_⟩⟩;unfold gp;simp only[hB l _ rfl hb,hi,dJ,hle,cond_true,j4];exact hk
      ·rename_i j4;refine⟨_,.inl ⟨h,(by first | rfl | exact js _ | exact ig (by assumption)),fun agj hB agi hk=>?_⟩⟩;unfold gp;simp only[hB l _ rfl hb,hi,dJ,hle,cond_true,j4];exact hk
    | false=>
     rw[dJ]at h;simp only[cond_false]at h;split at h
     ·rename_i sz rows hg;cases rr:(sS apps d&&(Nat.ble 1 sz&&T.jH t))with
      | true=>
       rw[rr]at h;have Xa:=rr;rw[Bool.and_eq_true,Bool.and_eq_true]at Xa;refine⟨_,.inr ⟨h,Xa.2.2,fun agj hB agi hk=>?_⟩⟩;unfold gp;simp only[hB l _ rfl hb,hi,dJ,cond_false,hg,rr,cond_true];exact hk
      | false=>
       rw[rr]at h;refine⟨_,.inl ⟨h,(by first | rfl | exact js _ | exact ig (by assumption)),fun agj hB agi hk=>?_⟩⟩;unfold gp;simp only[hB l _ rfl hb,hi,dJ,cond_false,hg,rr];exact hk
     ·rename_i sz rows hg;cases kC:T.jH t with
      | false=>rw[kC]at h;exact h.elim
      | true=>
      rw[kC]at h;refine⟨_,.inr ⟨h,rfl,fun agj hB agi hk=>?_⟩⟩;unfold gp;simp only[hB l _ rfl hb,hi,dJ,cond_false,hg,kC,cond_true];exact hk
     ·rename_i v dA aak hg;refine⟨_,.inl ⟨h,(by first | rfl | exact js _ | exact ig (by assumption)),fun agj hB agi hk=>?_⟩⟩;unfold gp;simp only[hB l _ rfl hb,hi,dJ,cond_false];split
      ·rename_i e;rw[hg]at e;cases e;exact(dA _ _ rfl).elim
      ·rename_i e;rw[hg]at e;cases e;exact(aak _ _ rfl).elim
      ·rename_i e;rw[hg]at e;cases e;exact hk
      ·rename_i e;rw[hg]at e;cases e
     ·exact h.elim
  ·exact h.elim
 ·rename_i sz cs off;split at h
  ·rename_i v hv;refine⟨v,.inl ⟨h,(by first | rfl | exact js _ | exact ig (by assumption)),fun agj hB agi hk=>?_⟩⟩;unfold gp;simp only[hv];exact hk
  ·exact h.elim
 ·rename_i v;split at h
  ·rename_i i hi;cases dJ:T.isAgg t with
   | true=>rw[dJ]at h;exact h.elim
   | false=>
    rw[dJ]at h;refine⟨_,.inl ⟨h,(by first | rfl | exact js _ | exact ig (by assumption)),fun agj hB agi hk=>?_⟩⟩;unfold gp;simp only[hi,dJ];exact hk
  ·exact h.elim
 ·exact h.elim
end
section
variable {S agj:St} {K:St→Prop} {R W:List Nat} {c:BI} {fr:Bool} {T:TE} {J:uF}
def Sn:AV→Loc
 | .ptr l _=>l
 | .bp l _ _ _=>l
 | .dF l=>l
 | _=> .own 0
def kZ(l:Loc)(F:St→(St→Prop)→Prop)(R W:List Nat)(S:St)(K:St→Prop):Prop:=
 ∃δ:Dl,eQ δ R W∧(δ.lb=false∧ ∀m,δ.pb m≠none→m=l)∧K (δ.app S)∧ ∀agj,dy S agj R W→agj.bx=S.bx→agj.aJ=S.aJ→ ∀agi:St→Prop,agi (δ.app agj)→F agj agi
theorem kZ.congr{l:Loc}{F G:St→(St→Prop)→Prop}(h:kZ l F R W S K)(he:∀agj,dy S agj R W→agj.bx=S.bx→agj.aJ=S.aJ→ ∀agi,F agj agi→G agj agi):kZ l G R W S K:=by
 obtain⟨δ,h1,h2,h3,h4⟩:=h;exact⟨δ,h1,h2,h3,fun agj a b c agi hk=>he agj a b c agi (h4 agj a b c agi hk)⟩
theorem lU{d:Nat}{v:AV}{δ:Dl}(h:eQ δ R W)(hd:d∈W):eQ (δ.put d v) R W:=⟨fun t ht=>by
  have ht:(bif Nat.beq d t then some v else δ.pg t)≠none:=ht;cases hb:Nat.beq d t with
  | true=>rw[←beq_true.1 hb];exact hd
  | false=>rw[hb]at ht;exact h.get t ht,h.lock⟩
theorem kF{l:Loc}{b:er}{δ:Dl}(h:eQ δ R W):eQ (δ.bK l b) R W:=⟨h.get,h.lock⟩
theorem u7{l:Loc}{b:er}{δ:Dl}(h:∀m,δ.pb m=none):∀m,(δ.bK l b).pb m≠none→m=l:=fun m hm=>by
 have hm:(bif Loc.mI l m then some b else δ.pb m)≠none:=hm;cases hb:Loc.mI l m with
 | true=>exact(Loc.fJ.1 hb).symm
 | false=>rw[hb,cond_false,h m]at hm;exact absurd rfl hm
theorem iF{l:Loc}{b:er}(h:K (S.bK l b)):kZ l (fun S K=>K (S.bK l b)) R W S K:=
 ⟨Dl.nil.bK l b,kF eR,⟨rfl,u7 (fun _=>rfl)⟩,by rw[Dl.dV,Dl.dw];exact h,fun agj _ _ _ agi hk=>by rw[Dl.dV,Dl.dw]at hk;exact hk⟩
theorem tC{s:Nat}{v:AV}{l:Loc}{b:er}(h:S.gG s v fun S=>K (S.bK l b))(hs:s∈W):kZ l (fun S K=>S.gG s v fun S=>K (S.bK l b)) R W S K:=by
 obtain⟨hl,hk⟩:=bP h;refine⟨(Dl.nil.put s v).bK l b,kF (lU eR hs),⟨rfl,u7 (fun _=>rfl)⟩,by rw[Dl.dV,Dl.dx,Dl.dw];exact hk,fun agj hA _ _ agi b9=>?_⟩;rw[Dl.dV,Dl.dx,Dl.dw]at b9;show(bif agj.lock s then False else _);rw[hA.lock s hs,hl];exact b9
theorem pT{t ty:TypeId}{l:Loc}{cs:List AV}{off sz:Nat}{rows:List (List PV)}{x:Operand}(h:jL T S t ty l cs off x sz rows K)(hx:∀s,x= .tmp s→s∈W):kZ l (fun S K=>jL T S t ty l cs off x sz rows K) R W S K:=by
 unfold jL at h;cases hb:(Nat.ble (off+1) (T.size ty)&&T.ea t 1)with
 | false=>rw[hb]at h;exact h.elim
 | true=>
  rw[hb]at h;simp only[cond_true]at h;cases x with
  | tmp s=>exact(tC h (hx s rfl)).congr (fun agj _ _ _ agi hk=>by unfold jL;rw[hb];exact hk)
  | _=>exact(iF h).congr (fun agj _ _ _ agi hk=>by unfold jL;rw[hb];exact hk)
theorem tD{t ty:TypeId}{l:Loc}{off:Nat}{ns:List PV}{rest:Option er}(h:nD T S t ty l off ns rest K):kZ l (fun S K=>nD T S t ty l off ns rest K) R W S K:=by
 unfold nD at h;cases hb:(T.ea t (T.size ty)&&Nat.beq off 0)with
 | true=>
  rw[hb]at h;simp only[cond_true]at h;exact(iF h.2).congr (fun agj _ _ _ agi hk=>by unfold nD;rw[hb];exact⟨h.1,hk⟩)
 | false=>
  rw[hb]at h;simp only[cond_false]at h;cases iE:(T.ea t ns.length&&Nat.ble (off+ns.length) (T.size ty))with
  | false=>rw[iE]at h;exact h.elim
  | true=>
   rw[iE]at h;simp only[cond_true]at h;cases rest with
   | none=>exact h.elim
   | some b=>exact(iF h).congr (fun agj _ _ _ agi hk=>by unfold nD;rw[hb];simp only[cond_false];rw[iE];exact hk)
theorem tE{t ty:TypeId}{l:Loc}{off:Nat}{cs ns:List AV}(h:pw T S t ty l off cs ns K):kZ l (fun S K=>pw T S t ty l off cs ns K) R W S K:=by
 unfold pw at h;cases hb:(pr l ns&&(T.ea t ns.length&&Nat.ble (off+ns.length) (T.size ty)))with
 | false=>rw[hb]at h;exact h.elim
 | true=>
  rw[hb]at h;exact(iF h).congr (fun agj _ _ _ agi hk=>by unfold pw;rw[hb];exact hk)
theorem ry{t ty:TypeId}{l:Loc}{cs:List AV}{off sz:Nat}{rows:List (List PV)}{x:Operand}(h:mq T S t ty l cs off x sz rows K)(hx:∀s,x= .tmp s→s∈W):kZ l (fun S K=>mq T S t ty l cs off x sz rows K) R W S K:=by
 unfold mq at h;cases hb:(Nat.ble (off+1) (T.size ty)&&T.ea t 1)with
 | false=>rw[hb]at h;exact h.elim
 | true=>
  rw[hb]at h;simp only[cond_true]at h;cases x with
  | tmp s=>exact(tC h (hx s rfl)).congr (fun agj _ _ _ agi hk=>by unfold mq;rw[hb];exact hk)
  | _=>exact h.elim
theorem we{t:TypeId}{u v:AV}{x:Operand}(h:gO T S t u x v K)(hx:∀s,x= .tmp s→s∈W):kZ (Sn u) (fun S K=>gO T S t u x v K) R W S K:=by
 unfold gO at h;cases fE:S.aJ with
 | true=>rw[fE]at h;exact h.elim
 | false=>
  rw[fE]at h;simp only[cond_false]at h;cases u with
  | ptr l off=>
   simp only at h;cases ri:S.bx l with
   | none=>rw[ri]at h;exact h.elim
   | some b=>
    rw[ri]at h;have back:∀ {F:St→(St→Prop)→Prop},kZ l F R W S K→(∀agj,agj.bx l=some b→agj.aJ=false→ ∀agi,F agj agi→gO T agj t (.ptr l off) x v agi)→kZ l (fun S K=>gO T S t (.ptr l off) x v K) R W S K:=fun hF he=>
     hF.congr (fun agj _ h1 h2 agi hk=>he agj (by rw[h1];exact ri) (by rw[h2];exact fE) agi hk)
    cases b with
    | pure ty cs=>
     simp only at h;cases v with
     | own sz rows=>
      exact back (pT h hx) (fun agj h1 h2 agi hk=>by unfold gO;rw[h2];simp only[cond_false,h1];exact hk)
     | mo sz rows=>
      exact back (ry h hx) (fun agj h1 h2 agi hk=>by unfold gO;rw[h2];simp only[cond_false,h1];exact hk)
     | _=>
      simp only at h;split at h
      ·rename_i ns oO;exact back (tD h) (fun agj h1 h2 agi hk=>by unfold gO;rw[h2];simp only[cond_false,h1,oO];exact hk)
      ·rename_i oO;split at h
       ·rename_i ns Tx;exact back (tE h) (fun agj h1 h2 agi hk=>by unfold gO;rw[h2];simp only[cond_false,h1,oO,Tx];exact hk)
       ·exact h.elim
    | mix ty cs=>
     simp only at h;cases v with
     | own sz rows=>
      exact back (pT h hx) (fun agj h1 h2 agi hk=>by unfold gO;rw[h2];simp only[cond_false,h1];exact hk)
     | mo sz rows=>
      exact back (ry h hx) (fun agj h1 h2 agi hk=>by unfold gO;rw[h2];simp only[cond_false,h1];exact hk)
     | _=>
      simp only at h;split at h
      ·rename_i ns oO;exact back (tD h) (fun agj h1 h2 agi hk=>by unfold gO;rw[h2];simp only[cond_false,h1,oO];exact hk)
      ·rename_i oO;split at h
       ·rename_i ns Tx;exact back (tE h) (fun agj h1 h2 agi hk=>by unfold gO;rw[h2];simp only[cond_false,h1,oO,Tx];exact hk)
       ·exact h.elim
    | mp ag es=>exact h.elim
    | rows sz rows=>exact h.elim
    | ob o=>exact h.elim
  | _=>exact h.elim
theorem tF{F:St→(St→Prop)→Prop}{d:Nat}{v:AV}{b:er}{δ0:Dl}(hb:S.bx (.own d)=none)(h0:eQ δ0 R W)(hp0:∀l,δ0.pb l=none)(WD:δ0.lb=false)(hk:K (((δ0.put d v).bK (.own d) b).app S))(hd:d∈W)
  (he:∀agj,dy S agj R W→agj.bx (.own d)=none→ ∀agi:St→Prop,agi (((δ0.put d v).bK (.own d) b).app agj)→F agj agi):gI F R W .alloc fr (some d) S K:=by
 refine⟨(δ0.put d v).bK (.own d) b,kF (lU h0 hd),⟨fun l hl=>?_,WD,fun k hk=>by cases hk;exact hb⟩,hk,fun agj hA hB agi b9=>he agj hA (by rw[hB d rfl];exact hb) agi b9⟩;have hl:(bif Loc.mI (.own d) l then some b else δ0.pb l)≠none:=hl;cases hq:Loc.mI (.own d) l with
 | true=>exact⟨d,(Loc.fJ.1 hq).symm,rfl⟩
 | false=>rw[hq,cond_false,hp0]at hl;exact absurd rfl hl
theorem J0{d:Option Nat}{e:TypeId}(h:rT T S d e K)(hd:∀k,d=some k→k∈W):gI (fun S K=>rT T S d e K) R W .alloc fr d S K:=by
 unfold rT at h;split at h
 ·rename_i d i hi;split at h
  ·rename_i hb;obtain⟨hl,hk⟩:=bP h;refine tF (δ0:= .nil) hb eR (fun _=>rfl) rfl (by rw[Dl.dV,Dl.dx,Dl.dw];exact hk) (hd d rfl) (fun agj hA mi agi b9=>?_);rw[Dl.dV,Dl.dx,Dl.dw]at b9;unfold rT;simp only[hi,mi];show(bif agj.lock d then False else _);rw[hA.lock d (hd d rfl),hl];exact b9
  ·exact h.elim
 ·exact h.elim
theorem PM{d:Option Nat}{e:TypeId}{x:Operand}{v:AV}(h:wR T S d e x v K)(hd:∀k,d=some k→k∈W)(hx:∀s,x= .tmp s→s∈W):gI (fun S K=>wR T S d e x v K) R W .alloc fr d S K:=by
 unfold wR at h;cases d with
 | none=>exact h.elim
 | some d=>
  simp only at h;cases hb:S.bx (.own d)with
  | some b=>rw[hb]at h;exact h.elim
  | none=>
   rw[hb]at h;simp only at h;have Zk:=hd d rfl;have one:∀(b:er),(S.gG d (.ptr (.own d) 0) fun S=>K (S.bK (.own d) b))→(∀agj,agj.bx (.own d)=none→ ∀agi,(agj.gG d (.ptr (.own d) 0) fun S=>agi (S.bK (.own d) b))→wR T agj (some d) e x v agi)→gI (fun S K=>wR T S (some d) e x v K) R W .alloc fr (some d) S K:=fun b h he=>by
    obtain⟨hl,hk⟩:=bP h;refine tF (δ0:= .nil) hb eR (fun _=>rfl) rfl (by rw[Dl.dV,Dl.dx,Dl.dw];exact hk) Zk (fun agj hA mi agi b9=>he agj mi agi ?_);rw[Dl.dV,Dl.dx,Dl.dw]at b9;show(bif agj.lock d then False else _);rw[hA.lock d Zk,hl];exact b9
   cases v with
   | own sz rows=>
    simp only at h;cases hz:T.ea e 1 with
    | false=>rw[hz]at h;exact h.elim
    | true=>
     rw[hz]at h;simp only[cond_true]at h;cases x with
     | tmp s=>
      simp only at h;obtain⟨si,h⟩:=bP h;obtain⟨mj,hk⟩:=bP h;refine tF (δ0:=Dl.nil.put s (.p (.sl sz rows))) hb (lU eR (hx s rfl)) (fun _=>rfl) rfl (by rw[Dl.dV,Dl.dx,Dl.dx,Dl.dw];exact hk) Zk (fun agj hA mi agi b9=>?_);rw[Dl.dV,Dl.dx,Dl.dx,Dl.dw]at b9;unfold wR;simp only[mi,hz,cond_true];show(bif agj.lock s then False else(bif agj.lock d then False else _));have mj:S.lock d=false:=mj;rw[hA.lock s (hx s rfl),si,hA.lock d Zk,mj];exact b9
     | _=>exact one _ h (fun agj mi agi hk=>by unfold wR;simp only[mi,hz,cond_true];exact hk)
   | _=>
    simp only at h;split at h
    ·rename_i ps j4;cases hz:T.ea e ps.length with
     | false=>rw[hz]at h;exact h.elim
     | true=>
      rw[hz]at h;exact one _ h (fun agj mi agi hk=>by unfold wR;simp only[mi,j4,hz,cond_true];exact hk)
    ·rename_i j4;split at h
     ·rename_i cs rX;cases hz:(pr (.own d) cs&&T.ea e cs.length)with
      | false=>rw[hz]at h;exact h.elim
      | true=>
       rw[hz]at h;exact one _ h (fun agj mi agi hk=>by unfold wR;simp only[mi,j4,rX,hz,cond_true];exact hk)
     ·exact h.elim
theorem AG{ch:bq}{gs:Option (Nat×Bool)}{d:Option Nat}{t:TypeId}{l:Loc}{sz k o:Nat}(h:oI T S ch gs d t l sz k o K)(hg:∀s w,gs=some (s,w)→s∈R)(hd:∀e,d=some e→e∈W):
  gI (fun S K=>oI T S ch gs d t l sz k o K) R W .load fr d S K:=by
 unfold oI at h;split at h
 ·rename_i db rows hb;cases jC:Nat.beq db sz with
  | false=>rw[jC]at h;exact h.elim
  | true=>
   rw[jC]at h;simp only[cond_true]at h;obtain⟨r,hr,h⟩:=h;split at h
   ·rename_i v hv;obtain⟨δ,k1,k2,k3,k4,k5⟩:=qJ h hg hd;refine⟨δ,k1,k2,k4,fun agj hA hB agi hk=>?_⟩;unfold oI;simp only[hB l _ hb,jC,cond_true];exact⟨r,hr,by rw[hv];exact k5 agj hA agi hk⟩
   ·exact h.elim
 ·exact h.elim
theorem AH{ch:bq}{gs:Option (Nat×Bool)}{d:Option Nat}{t:TypeId}{l:Loc}{i sz k o:Nat}(h:oJ T S ch gs d t l i sz k o K)(hg:∀s w,gs=some (s,w)→s∈R)(hd:∀e,d=some e→e∈W):
  gI (fun S K=>oJ T S ch gs d t l i sz k o K) R W .load fr d S K:=by
 unfold oJ at h;split at h
 ·rename_i ty cs hb;split at h
  ·rename_i db rows hi;cases jC:Nat.beq db sz with
   | false=>rw[jC]at h;exact h.elim
   | true=>
    rw[jC]at h;simp only[cond_true]at h;obtain⟨r,hr,h⟩:=h;split at h
    ·rename_i v hv;obtain⟨δ,k1,k2,k3,k4,k5⟩:=qJ h hg hd;refine⟨δ,k1,k2,k4,fun agj hA hB agi hk=>?_⟩;unfold oJ;simp only[hB l _ hb,hi,jC,cond_true];exact⟨r,hr,by rw[hv];exact k5 agj hA agi hk⟩
    ·exact h.elim
  ·exact h.elim
 ·exact h.elim
theorem B9{t:TypeId}{l:Loc}{i sz k o:Nat}{v:AV}(h:rV T S t l i sz k o v K):kZ l (fun S K=>rV T S t l i sz k o v K) R W S K:=by
 unfold rV at h;split at h
 ·rename_i ty cs hb;split at h
  ·rename_i db rows hi;split at h
   ·rename_i ns oO;cases jC:(Nat.beq db sz&&(T.ea t ns.length&&Nat.ble (o+ns.length) sz))with
    | false=>rw[jC]at h;exact h.elim
    | true=>
     rw[jC]at h;simp only[cond_true]at h;obtain⟨r,hr,jx,he,hk⟩:=h;refine(iF hk).congr (fun agj _ h1 h2 agi b9=>?_);unfold rV;simp only[h1,hb,hi,oO,jC,cond_true];exact⟨r,hr,jx,he,b9⟩
   ·exact h.elim
  ·exact h.elim
 ·exact h.elim
theorem Ca{t:TypeId}{a:AV}{l:Loc}{i sz m:Nat}(h:storeT T S t a l i sz m K):kZ l (fun S K=>storeT T S t a l i sz m K) R W S K:=by
 unfold storeT at h;split at h
 ·rename_i age off;cases jC:(Loc.mI age l&&(Nat.beq off i&&T.ea t 1))with
  | false=>rw[jC]at h;exact h.elim
  | true=>
   rw[jC]at h;simp only[cond_true]at h;split at h
   ·rename_i ty cs hb;split at h
    ·rename_i db rows hi;cases ny:Nat.beq db sz with
     | false=>rw[ny]at h;exact h.elim
     | true=>
      rw[ny]at h;simp only[cond_true]at h;obtain⟨hm,jx,he,hk⟩:=h;refine(iF hk).congr (fun agj _ h1 h2 agi b9=>?_);unfold storeT;simp only[jC,cond_true,h1,hb,hi,ny];exact⟨hm,jx,he,b9⟩
    ·exact h.elim
   ·exact h.elim
 ·exact h.elim
theorem Cb{t:TypeId}{l:Loc}{sz k o:Nat}{v:AV}(h:rU T S t l sz k o v K):kZ l (fun S K=>rU T S t l sz k o v K) R W S K:=by
 unfold rU at h;cases fE:S.aJ with
 | true=>rw[fE]at h;exact h.elim
 | false=>
  rw[fE]at h;simp only[cond_false]at h;split at h
  ·rename_i db rows hb;split at h
   ·rename_i ns oO;cases jC:(Nat.beq db sz&&(T.ea t ns.length&&Nat.ble (o+ns.length) sz))with
    | false=>rw[jC]at h;exact h.elim
    | true=>
     rw[jC]at h;simp only[cond_true]at h;obtain⟨r,hr,jx,he,hk⟩:=h;refine(iF hk).congr (fun agj _ h1 h2 agi b9=>?_);unfold rU;rw[h2,fE];simp only[cond_false,h1,hb,oO,jC,cond_true];exact⟨r,hr,jx,he,b9⟩
   ·exact h.elim
  ·exact h.elim
theorem Gs{d:Option Nat}{t:TypeId}{m k:AV}{ok:Bool}(h:jM T S d t m k ok K)(hd:∀e,d=some e→e∈W):gI (fun S K=>jM T S d t m k ok K) R W .load fr d S K:=by
 unfold jM at h;split at h
 ·rename_i kt et ht;split at h
  ·rename_i kc;cases hb:(T.flat kt&&(T.cmp kt kc&&Nat.beq kc.length (T.size kt)))with
   | false=>rw[hb]at h;exact h.elim
   | true=>
    rw[hb]at h;simp only[cond_true]at h;split at h
    ·rename_i z hz;split at h
     ·obtain⟨δ,k1,k2,k3,k4,k5⟩:=eX (R:=R) h hd;refine⟨δ,k1,k2,k4,fun agj hA hB agi hk=>?_⟩;unfold jM;simp only[ht,hb,cond_true,hz];exact k5 agj hA agi hk
     ·rename_i l;split at h
      ·rename_i ag es ri;split at h
       ·rename_i dJ;obtain⟨ha,b,cs,sb,hp⟩:=h;obtain⟨δ,k1,k2,k3,k4,k5⟩:=eX (R:=R) hp hd;refine⟨δ,k1,k2,k4,fun agj hA hB agi hk=>?_⟩;unfold jM;simp only[ht,hb,cond_true,hz,hB l _ ri,dJ];exact⟨ha,b,cs,sb,k5 agj hA agi hk⟩
       ·rename_i dJ;obtain⟨ha,b,cs,sb,hp⟩:=h;obtain⟨δ,k1,k2,k3,k4,k5⟩:=eX (R:=R) hp hd;refine⟨δ,k1,k2,k4,fun agj hA hB agi hk=>?_⟩;unfold jM;simp only[ht,hb,cond_true,hz,hB l _ ri,dJ];exact⟨ha,b,cs,sb,k5 agj hA agi hk⟩
       ·exact h.elim
      ·exact h.elim
     ·rename_i ag es;split at h
      ·rename_i dJ;obtain⟨ha,b,cs,sb,hp⟩:=h;obtain⟨δ,k1,k2,k3,k4,k5⟩:=eX (R:=R) hp hd;refine⟨δ,k1,k2,k4,fun agj hA hB agi hk=>?_⟩;unfold jM;simp only[ht,hb,cond_true,hz,dJ];exact⟨ha,b,cs,sb,k5 agj hA agi hk⟩
      ·rename_i dJ;obtain⟨ha,b,cs,sb,hp⟩:=h;obtain⟨δ,k1,k2,k3,k4,k5⟩:=eX (R:=R) hp hd;refine⟨δ,k1,k2,k4,fun agj hA hB agi hk=>?_⟩;unfold jM;simp only[ht,hb,cond_true,hz,dJ];exact⟨ha,b,cs,sb,k5 agj hA agi hk⟩
      ·exact h.elim
     ·exact h.elim
    ·exact h.elim
  ·exact h.elim
 ·exact h.elim
theorem Cc{t:TypeId}{m k v:AV}(h:mr T S t m k v K):kZ (Sn m) (fun S K=>mr T S t m k v K) R W S K:=by
 unfold mr at h;cases fE:S.aJ with
 | true=>rw[fE]at h;exact h.elim
 | false=>
  rw[fE]at h;simp only[cond_false]at h;split at h
  ·rename_i kt et ht;split at h
   ·rename_i kc;split at h
    ·rename_i vc Zh;cases hb:(T.flat kt&&(T.cmp kt kc&&Nat.beq kc.length (T.size kt)))with
     | false=>rw[hb]at h;exact h.elim
     | true=>
      rw[hb]at h;simp only[cond_true]at h;split at h
      ·rename_i l;split at h
       ·rename_i ag es ri;split at h
        ·rename_i dJ;obtain⟨ha,zF,he,hk⟩:=h;refine(iF hk).congr (fun agj _ h1 h2 agi b9=>?_);unfold mr;rw[h2,fE];simp only[cond_false,ht,Zh,hb,cond_true,h1,ri,dJ];exact⟨ha,zF,he,b9⟩
        ·rename_i dJ;obtain⟨ha,zF,he,hk⟩:=h;refine(iF hk).congr (fun agj _ h1 h2 agi b9=>?_);unfold mr;rw[h2,fE];simp only[cond_false,ht,Zh,hb,cond_true,h1,ri,dJ];exact⟨ha,zF,he,b9⟩
        ·exact h.elim
       ·exact h.elim
      ·exact h.elim
    ·exact h.elim
   ·exact h.elim
  ·exact h.elim
theorem Eg{d:Option Nat}{t:TypeId}(h:lM T S d t K)(hd:∀k,d=some k→k∈W):gI (fun S K=>lM T S d t K) R W .alloc fr d S K:=by
 unfold lM at h;split at h
 ·rename_i d kt et ht;split at h
  ·rename_i hb;obtain⟨hl,hk⟩:=bP h;refine tF (δ0:= .nil) hb eR (fun _=>rfl) rfl (by rw[Dl.dV,Dl.dx,Dl.dw];exact hk) (hd d rfl) (fun agj hA mi agi b9=>?_);rw[Dl.dV,Dl.dx,Dl.dw]at b9;unfold lM;simp only[ht,mi];show(bif agj.lock d then False else _);rw[hA.lock d (hd d rfl),hl];exact b9
  ·exact h.elim
 ·exact h.elim
theorem zU{d:Option Nat}{t:TypeId}{zb:Bool}{x y:AV}(h:g8 T S d t zb x y K)(hd:∀k,d=some k→k∈W):gI (fun S K=>g8 T S d t zb x y K) R W .alloc fr d S K:=by
 unfold g8 at h;split at h
 ·rename_i d e oM;cases hb:Nat.ble 1 (T.bytes e)with
  | false=>rw[hb]at h;exact h.elim
  | true=>
   rw[hb]at h;simp only[cond_true]at h;split at h
   ·rename_i c;split at h
    ·split at h
     case h_2=>exact h.elim
     rename_i ri;obtain⟨h0,h1⟩:=h;obtain⟨δ,k1,k2,k3,k4,k5⟩:=eX (R:=R) (W:=W) (d:=some d) (S:=S) (K:=K) h1 (fun e he=>by cases he;exact hd d rfl);refine⟨δ,k1,⟨fun l hl=>absurd (k2 l) hl,k3,fun k hk=>by cases hk;exact ri⟩,k4,fun agj hA hB agi hk=>?_⟩;unfold g8;simp only[oM,hb,cond_true,hB d rfl,ri];exact⟨h0,k5 agj hA agi hk⟩
    ·split at h
     ·rename_i n z hz ri;obtain⟨h0,h1,m,hm,h2⟩:=h;obtain⟨hl,hk⟩:=bP h2;refine tF (δ0:= .nil) ri eR (fun _=>rfl) rfl (by rw[Dl.dV,Dl.dx,Dl.dw];exact hk) (hd d rfl) (fun agj hA mi agi b9=>?_);rw[Dl.dV,Dl.dx,Dl.dw]at b9;unfold g8;simp only[oM,hb,cond_true,hz,mi];refine⟨h0,h1,m,hm,?_⟩;show(bif agj.lock d then False else _);rw[hA.lock d (hd d rfl),hl];exact b9
     ·exact h.elim
   ·exact h.elim
 ·exact h.elim
def ki(δ:Dl):List Loc→List er→Dl
 | l::ls,b::bs=>ki (δ.bK l b) ls bs
 | _,_=>δ
theorem yb(S:St):∀(ls:List Loc) (bs:List er) (δ:Dl),(ki δ ls bs).app S=fW (δ.app S) ls bs
 | [],_,δ=>rfl
 | _::_,[],δ=>rfl
 | l::ls,b::bs,δ=>by
  show(ki (δ.bK l b) ls bs).app S=fW ((δ.app S).bK l b) ls bs;rw[yb S ls bs,Dl.dV]
theorem mN:∀(ls:List Loc) (bs:List er) (δ:Dl),eQ δ R W→eQ (ki δ ls bs) R W∧(ki δ ls bs).lb=δ.lb
 | [],_,δ,h=>⟨h,rfl⟩
 | _::_,[],δ,h=>⟨h,rfl⟩
 | l::ls,b::bs,δ,h=>mN ls bs (δ.bK l b) (kF h)
theorem pU(h:agj.bx=S.bx):∀(n:Nat) (acc:List Loc),reach agj n acc=reach S n acc
 | 0,_=>rfl
 | n+1,acc=>by
  unfold reach;rw[h,pU h n]
theorem tG{d:Option Nat}{f:FuncId}{args:List AV}{ch:bq}{gs:Option (Nat×Bool)}(h:g7 J S d f args ch gs fr K)(hg:∀s w,gs=some (s,w)→s∈R)(hd:∀e,d=some e→e∈W):
  gI (fun S K=>g7 J S d f args ch gs fr K) R W .call fr d S K:=by
 unfold g7 at h;rw[eP]at h;split at h
 ·rename_i agG has;cases gs with
  | none=>
   simp only at h;obtain⟨r,hj,h⟩:=h;split at h
   ·rename_i r1 zG;refine Still.loc ((sh h hd).congr (fun agj hA agi hk=>?_)) ⟨by simp,by simp⟩;unfold g7;rw[eP];simp only[has];exact⟨r,hj,by rw[zG];exact hk⟩
   ·exact h.elim
  | some sw=>
   obtain⟨s,w⟩:=sw;simp only at h;obtain⟨r,hj,h⟩:=h;split at h
   ·rename_i r1 zG;have j3:Still (fun S K=>bT (S.cA s) d (.fS s w r1.lf) K) R W S K:=qI h (hg s w rfl) hd;refine Still.loc (j3.congr (fun agj hA agi hk=>?_)) ⟨by simp,by simp⟩;unfold g7;rw[eP];simp only[has];exact⟨r,hj,by rw[zG];exact hk⟩
   ·exact h.elim
 ·rename_i has;split at h
  ·rename_i fE;simp only[gx,ic]at h;split at h
   ·rename_i agG bs hm ny
    let ls:=reach S 3 (sQ [] (args.flatMap (kX 3)))
    have wth:∀l,eQ (ki .nil ls l) R W:=fun l=>(mN (R:=R) (W:=W) ls l .nil eR).1
    have wlb:∀l,(ki .nil ls l).lb=false:=fun l=>(mN (R:=R) (W:=W) ls l .nil eR).2
    have e0:∀(l:List er) (S1:St),(ki .nil ls l).app S1=fW S1 ls l:=fun l S1=>by
     rw[yb,Dl.dw]
    cases gs with
    | none=>
     simp only at h;obtain⟨r,zE,hj,hlen,h⟩:=h;split at h
     ·rename_i agf l rh m5;obtain⟨δ,h1,h2,h3,h4,h5⟩:=pS (δ:=ki .nil ls l) (S:=S) (by rw[e0];exact h) (wth l) hd;refine⟨δ,h1,⟨fun e=>by(first | cases e | simp at e),by rw[h3,wlb]⟩,h4,fun agj hA hB agi b9=>?_⟩;obtain⟨PN,J1⟩:=hB rfl;have h6:=h5 agj hA agi b9;rw[e0]at h6;unfold g7;rw[eP];simp only[has,J1,fE,gx,ic];rw[pU PN,PN,hm,ny];exact⟨r,zE,hj,hlen,by rw[rh,m5];exact h6⟩
     ·exact h.elim
    | some sw=>
     obtain⟨s,w⟩:=sw;simp only at h;obtain⟨r,hj,h⟩:=h;split at h
     ·rename_i agf l rh m5;have e1:∀(S1:St),((ki .nil ls l).cA s).app S1=(fW S1 ls l).cA s:=fun S1=>by rw[Dl.qH,e0]
      have aam:eQ ((ki .nil ls l).cA s) R W:=⟨(wth l).get,fun t ht=>by
       have ht:(bif Nat.beq s t then true else(ki .nil ls l).lk t)=true:=ht;cases iE:Nat.beq s t with
       | true=>rw[←beq_true.1 iE];exact hg s w rfl
       | false=>rw[iE]at ht;exact(wth l).lock t ht⟩
      obtain⟨δ,h1,h2,h3,h4,h5⟩:=pS (δ:=(ki .nil ls l).cA s) (S:=S) (by rw[e1];exact h) aam hd;refine⟨δ,h1,⟨fun e=>by(first | cases e | simp at e),by rw[h3];exact wlb l⟩,h4,fun agj hA hB agi b9=>?_⟩;obtain⟨PN,J1⟩:=hB rfl;have h6:=h5 agj hA agi b9;rw[e1]at h6;unfold g7;rw[eP];simp only[has,J1,fE,gx,ic];rw[pU PN,PN,hm,ny];exact⟨r,hj,by rw[rh,m5];exact h6⟩
     ·exact h.elim
   ·exact h.elim
  ·exact h.elim
def Dl.comp(ij iR:Dl):Dl:=⟨fun t=>match ij.pg t with | some v=>some v | none=>iR.pg t,fun t=>ij.lk t||iR.lk t,fun l=>match ij.pb l with | some b=>some b | none=>iR.pb l,ij.lb||iR.lb⟩
theorem Dl.Eh(ij iR:Dl)(S:St):(ij.comp iR).app S=ij.app (iR.app S):=by
 refine St.ext' (fun t=>?_) (fun l=>?_) (fun t=>?_) ?_
 ·show(match(match ij.pg t with | some v=>some v | none=>iR.pg t)with | some v=>v | none=>S.get t)=match ij.pg t with | some v=>v | none=>(match iR.pg t with | some v=>v | none=>S.get t)
  cases ij.pg t<;>rfl
 ·show(match(match ij.pb l with | some v=>some v | none=>iR.pb l)with | some v=>some v | none=>S.bx l)=match ij.pb l with | some v=>some v | none=>(match iR.pb l with | some v=>some v | none=>S.bx l)
  cases ij.pb l<;>rfl
 ·show((ij.lk t||iR.lk t)||S.lock t)=(ij.lk t||(iR.lk t||S.lock t));rw[Bool.or_assoc]
 ·show((ij.lb||iR.lb)||S.aJ)=(ij.lb||(iR.lb||S.aJ));rw[Bool.or_assoc]
structure Dl.Ty(δ:Dl):Prop where
 pg:∀t,δ.pg t=none
 lk:∀t,δ.lk t=false
 lb:δ.lb=false
theorem Dl.Ty.Xb{δ:Dl}(h:δ.Ty)(hA:dy S agj R W):dy (δ.app S) (δ.app agj) R W:=by
 refine⟨fun t ht=>?_,fun t ht=>?_⟩
 ·show(match δ.pg t with | some v=>v | none=>agj.get t)=(match δ.pg t with | some v=>v | none=>S.get t);rw[h.pg t];exact hA.get t ht
 ·show(δ.lk t||agj.lock t)=(δ.lk t||S.lock t);rw[hA.lock t ht]
theorem PO{d:Option Nat}{f:FuncId}(hd:∀e,d=some e→e∈W):∀(args:List AV) (δ0:Dl) (pre:List AV),δ0.Ty→sU (δ0.app S) args (fun S1 Ld=>g7 J S1 d f (pre++Ld) [] none false K)→
  ∃δ:Dl,eQ δ R W∧δ.lb=false∧K (δ.app S)∧ ∀agj,dy S agj R W→agj.bx=S.bx→agj.aJ=S.aJ→ ∀agi:St→Prop,agi (δ.app agj)→sU (δ0.app agj) args (fun S1 Ld=>g7 J S1 d f (pre++Ld) [] none false agi):=by
 intro args;induction args with
 | nil=>
  intro δ0 pre h0 h;obtain⟨ij,k1,k2,k3,k4⟩:=tG (R:=R) (fr:=false) (show g7 J (δ0.app S) d f (pre++ []) [] none false K from h) (fun s w e=>by cases e) hd;refine⟨ij.comp δ0,⟨fun t ht=>?_,fun t ht=>?_⟩,?_,by rw[Dl.Eh];exact k3,fun agj hA hB hl agi hk=>?_⟩
  ·refine k1.get t (fun e=>ht ?_);show(match ij.pg t with | some v=>some v | none=>δ0.pg t)=none;rw[e];exact h0.pg t
  ·have ht:(ij.lk t||δ0.lk t)=true:=ht;rw[h0.lk t,Bool.or_false]at ht;exact k1.lock t ht
  ·show(ij.lb||δ0.lb)=false;rw[k2.2,h0.lb];rfl
  ·rw[Dl.Eh]at hk;refine k4 (δ0.app agj) (h0.Xb hA) (fun _=>⟨?_,?_⟩) agi hk
   ·show(fun l=>match δ0.pb l with | some b=>some b | none=>agj.bx l)=fun l=>match δ0.pb l with | some b=>some b | none=>S.bx l
    rw[hB]
   ·show(δ0.lb||agj.aJ)=(δ0.lb||S.aJ);rw[hl]
 | cons v r ih=>
  intro δ0 pre h0 h;have Zl:∀(S0:St) (u:AV) (agi:St→Prop),sU S0 r (fun S1 Ld=>g7 J S1 d f (pre++u::Ld) [] none false agi)=sU S0 r (fun S1 Ld=>g7 J S1 d f ((pre++ [u])++Ld) [] none false agi):=fun S0 u agi=>by
   congr 1;funext S1 Ld;rw[List.append_assoc];rfl
  have plain:sU (δ0.app S) r (fun S1 Ld=>g7 J S1 d f (pre++v::Ld) [] none false K)→
    ∃δ:Dl,eQ δ R W∧δ.lb=false∧K (δ.app S)∧ ∀agj,dy S agj R W→agj.bx=S.bx→agj.aJ=S.aJ→ ∀agi:St→Prop,agi (δ.app agj)→sU (δ0.app agj) r (fun S1 Ld=>g7 J S1 d f (pre++v::Ld) [] none false agi):=fun h=>by
   rw[Zl]at h;obtain⟨δ,k1,k2,k3,k4⟩:=ih δ0 _ h0 h;exact⟨δ,k1,k2,k3,fun agj hA hB hl agi hk=>by rw[Zl];exact k4 agj hA hB hl agi hk⟩
  cases v with
  | vw l i sz m=>
   unfold sU at h;simp only at h;split at h
   ·rename_i ty cs hb;split at h
    ·rename_i db rows hi;cases jC:Nat.beq db sz with
     | false=>rw[jC]at h;exact h.elim
     | true=>
      rw[jC]at h;simp only[cond_true]at h;obtain⟨hm,h⟩:=h;rw[←Dl.dV,Zl]at h;obtain⟨δ,k1,k2,k3,k4⟩:=ih (δ0.bK l (.mix ty (cG cs i [.p (.sl sz rows)]))) _ ⟨h0.pg,h0.lk,h0.lb⟩ h;refine⟨δ,k1,k2,k3,fun agj hA hB hl agi hk=>?_⟩;have mi:(δ0.app agj).bx l=some (.mix ty cs):=by
       have hb:(match δ0.pb l with | some b=>some b | none=>S.bx l)=some (.mix ty cs):=hb;show(match δ0.pb l with | some b=>some b | none=>agj.bx l)=_;rw[hB];exact hb
      unfold sU;simp only[mi,hi,jC,cond_true];refine⟨hm,?_⟩;rw[←Dl.dV,Zl];exact k4 agj hA hB hl agi hk
    ·exact h.elim
   ·exact h.elim
  | _=>exact plain h
theorem AI{d:Option Nat}{f:FuncId}{args:List AV}(h:xF J S d f args fr K)(hd:∀e,d=some e→e∈W):gI (fun S K=>xF J S d f args fr K) R W .call fr d S K:=by
 unfold xF at h;cases fr with
 | true=>
  obtain⟨δ,k1,k2,k3,k4⟩:=tG (R:=R) h (fun s w e=>by cases e) hd;exact⟨δ,k1,k2,k3,fun agj hA hB agi hk=>k4 agj hA hB agi hk⟩
 | false=>
  have e:∀S:St,Dl.nil.app S=S:=Dl.dw
  obtain⟨δ,k1,k2,k3,k4⟩:=PO (R:=R) (K:=K) (J:=J) (f:=f) hd args .nil [] ⟨fun _=>rfl,fun _=>rfl,rfl⟩ (by rw[e];exact h);refine⟨δ,k1,⟨fun h=>by(cases h),k2⟩,k3,fun agj hA hB agi hk=>?_⟩;have:=k4 agj hA (hB rfl).1 (hB rfl).2 agi hk;rw[e]at this;exact this
end
end Go.Hm
