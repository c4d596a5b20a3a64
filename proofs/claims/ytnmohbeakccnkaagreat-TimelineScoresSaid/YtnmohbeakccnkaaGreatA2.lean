/- Part 2 of the proof: an abstract machine for the program, its soundness, contracts of functions, and the plain law; no conditions. -/
import Derived.Test.YtnmohbeakccnkaaGreatA1
import Derived.Great.FillDense
import Derived.MapKept
set_option linter.all false
set_option maxRecDepth 512
namespace Go.Hm
section
variable {P:Program} {T:TE} {n:Nat} {g0 g g':G} {w0 w w':World} {S:St} {a:Act} {ops:List Oper} {next:Act→World→Prop} {K:St→Prop} {X:BK→Prop}
theorem bR.jq(h:bR T n g0 w0 S g a w)(hc:j8 X g w g' w')(hX:¬X .none)
  (kC:∀t,X (.cw (.slot t))→mg g' w' a.tmps t (S.get t) (a.tmps.getD t undef))
  (ri:∀l b,S.bx l=some b→(X (.box l)∨ ∃i,X (.cw (.cell l i)))→iB T g' w' l b)
  (oL:∀t l,eu (S.get t)=some l→ ¬X (.box l))
  (vR:∀k,g'.K (g'.B (.own k))= .box (.own k)→ ∃b,S.bx (.own k)=some b):bR T n g0 w0 S g' a w' where
 defers:=h.defers
 size:=h.size
 bH t:=by
  by_cases hx:X (.cw (.slot t))
  ·exact kC t hx
  ·exact(h.bH t).jq hc hx (fun l he=>by
    obtain⟨_,b,hb⟩:=h.aJ t l he;exact⟨(h.boxes l b hb).gV,oL t l he⟩) (fun b hb=>(h.fresh b hb).2)
 boxes l b hb:=by
  by_cases hx:X (.box l)∨ ∃i,X (.cw (.cell l i))
  ·exact ri l b hb hx
  ·exact(h.boxes l b hb).jq hc (fun e=>hx (.inl e)) (fun i e=>hx (.inr ⟨i,e⟩))
 fresh:=hc.fresh
 dc:=h.dc
 aJ:=h.aJ
 dm:=h.dm
 de:=h.de
 live:=vR
 frame:=hc.frame hX h.frame
theorem bR.weaken(h:bR T n g0 w0 S g a w){s:Nat}{v:AV}(hl:S.lock s=false)(hv:aA g w v (a.tmps.getD s undef)):bR T n g0 w0 (S.put s v) g a w where
 defers:=h.defers
 size:=h.size
 bH t:=by
  rw[St.di];by_cases e:s=t
  ·subst e;rw[if_pos rfl];exact .of hv
  ·rw[if_neg e];exact h.bH t
 boxes:=h.boxes
 fresh:=h.fresh
 dc t agb sz rows hs:=by
  rw[St.di]at hs;split at hs
  ·subst hs;exact hv.lQ.elim
  ·exact h.dc t agb sz rows hs
 aJ t l hs:=by
  rw[St.di]at hs;split at hs
  ·rw[hv.pJ]at hs;cases hs
  ·exact h.aJ t l hs
 dm t sz rows hs:=by
  rw[St.di]at hs;split at hs
  ·subst hs;exact hv.lQ.elim
  ·exact h.dm t sz rows hs
 de t agb wt v' hs:=by
  rw[St.di]at hs;split at hs
  ·subst hs;exact hv.uJ.elim
  ·exact h.de t agb wt v' hs
 live:=h.live
 frame:=h.frame
def G.DX(g:G)(b:Nat)(k:BK):G:=⟨g.H,fun c=>if c=b then k else g.K c,g.B,g.D⟩
theorem pK{b:Nat}{k:BK}{q:Place}(hf:eW g w)(hb:b<w.heap.size)(hk:g.K b= .cw q):j8 (fun e=>e= .cw q) g w (g.DX b k) w where
 os:=rfl
 tape:=rfl
 output:=rfl
 size:=Nat.le_refl _
 same c hc hx:=⟨rfl,rfl,by
  show(if c=b then k else g.K c)=g.K c;rw[if_neg (fun e=>hx (by rw[e];exact hk))]⟩
 ge:=⟨.refl _ _,fun l hl=>⟨rfl,by
  show(if g.B l=b then k else g.K (g.B l))= .box l;rw[if_neg (fun e=>by rw[e,hk]at hl;cases hl)];exact hl⟩⟩
 fresh c hc:=⟨(hf c hc).1,by
  show(if c=b then k else g.K c)= .none;rw[if_neg (by omega)];exact(hf c hc).2⟩
 fz _ _:=rfl
theorem dG.Lz{q:Place}{sz:Nat}{rows:List (List PV)}{x:Value}(h:dG g w q sz rows x):x≠undef:=by
 rcases h with⟨_,rfl⟩ | ⟨b,cap,cur,e,rfl,_⟩<;>(intro h;cases h)
theorem getD_some{tmps:Array Value}{t:Nat}(h:tmps.getD t undef≠undef):tmps[t]? =some (tmps.getD t undef):=by
 rw[Array.getD_eq_getD_getElem?]at h ⊢;cases hx:tmps[t]? with
 | none=>rw[hx]at h;exact absurd rfl h
 | some v=>rfl
theorem WK{d:Nat}{x:Value}(hd:a.tmps[d]? =some x):a.put (some d) x=a:=by
 obtain⟨tm,df⟩:=a;show(⟨tm.setIfInBounds d x,df⟩:Act)=⟨tm,df⟩;congr 1;apply Array.ext_getElem?;intro i;rw[Array.getElem?_setIfInBounds];split
 ·rename_i e;subst e;have:=(Array.getElem?_eq_some_iff.1 hd).1;simp only[this,if_true];exact hd.symm
 ·rfl
theorem dG.hand{q q':Place}{sz:Nat}{rows:List (List PV)}{x:Value}(hf:eW g w)(h:dG g w q sz rows x):
  ∃g',j8 (fun e=>e= .cw q) g w g' w∧dG g' w q' sz rows x∧g'.H=g.H∧ ∀l,g'.K (g'.B l)= .box l→g.K (g.B l)= .box l:=by
 rcases h with⟨h1,h2⟩ | ⟨b,cap,cur,e,rfl,hb,hc,hm,hs,hr,hC,hH,hK⟩
 ·refine⟨g,⟨rfl,rfl,rfl,Nat.le_refl _,fun b hb _=>⟨rfl,rfl,rfl⟩,.refl _ _,hf,fun _ _=>rfl⟩,.inl ⟨h1,h2⟩,rfl,fun _ h=>h⟩
 ·refine⟨g.DX b (.cw q'),pK hf (bJ hb) hK,.inr ⟨b,cap,cur,e,rfl,hb,hc,hm,hs,hr,hC,hH,?_⟩,rfl,fun l hl=>?_⟩
  ·show(if b=b then BK.cw q' else g.K b)= .cw q';rw[if_pos rfl]
  ·have hl:(if g.B l=b then BK.cw q' else g.K (g.B l))= .box l:=hl;split at hl
   ·cases hl
   ·exact hl
theorem tb{ty:TypeId}{x:Operand}{sz:Nat}{rows:List (List PV)}(h:bO T S [] ty x= .own sz rows):(∃s,x= .tmp s∧S.get s= .own sz rows)∨((∀s,x≠ .tmp s)∧rows= []∧a.eval x= .slice none 0 0):=by
 cases x with
 | tmp s=>
  refine .inl ⟨s,rfl,?_⟩;have h:under [] (S.get s)= .own sz rows:=h;unfold under at h;split at h
  ·cases h
  ·exact h
 | const v=>
  refine .inr ⟨by simp,?_⟩;have h:fU T ty v= .own sz rows:=h;unfold fU at h;split at h<;>first | cases h | skip
  split at h<;>cases h
  exact⟨rfl,rfl⟩
 | func f=>cases h
 | global _=>cases h
theorem FZ(hT:bw P T)(hs:bR T n g0 w0 S g a w){ty:TypeId}{x:Operand} :aA g w (bO T S [] ty x).lf (a.eval x):=(bN hT hs (c:= []) (by intro e he;cases he) ty x).lf
theorem xN{c:bq}{ty:TypeId}{x:Operand}{l:Loc}(h:dh (bO T S c ty x)=some l):∃s,x= .tmp s∧eu (S.get s)=some l:=by
 cases x with
 | tmp s=>
  refine⟨s,rfl,?_⟩;have h:dh (under c (S.get s))=some l:=h;revert h;generalize S.get s=v;intro h;cases v with
  | fS q b v=>
   have h:dh (bif c.has q b then v else .dead)=some l:=h;cases hb:c.has q b with
   | true=>rw[hb]at h;exact rW h
   | false=>rw[hb]at h;cases h
  | _=>first | exact h | cases h
 | const v=>
  exfalso;have h:dh (fU T ty v)=some l:=h;unfold fU at h;split at h<;>first | cases h | skip
  split at h<;>cases h
 | func f=>cases h
 | global _=>cases h
theorem xO(hs:bR T n g0 w0 S g a w){c:bq}{ty:TypeId}{x:Operand} :HN S (bO T S c ty x):=by
 intro l hl;obtain⟨s,_,h⟩:=xN hl;exact hs.aJ s l h
theorem jP(v:AV):dh v.lf=none:=by cases v<;>rfl
theorem JF(v:AV):(∃l i sz m,v= .vw l i sz m∧v.WA= .vw l i sz m)∨v.WA=v.lf:=by
 cases v<;>first | exact .inr rfl | exact .inl ⟨_,_,_,_,rfl,rfl⟩
theorem HO(hT:bw P T)(hs:bR T n g0 w0 S g a w){d:Option Nat}{ty:TypeId}{x:Operand}(h:bT S d (bO T S [] ty x).WA K)(hd:∀e,d=some e→e<n)(hn:Rest T n g0 w0 K next):next (a.put d (a.eval x)) w:=by
 rcases JF (bO T S [] ty x)with⟨l,i,sz,m,h1,h2⟩ | h2
 ·rw[h2]at h;have hr:=bN hT hs (c:= []) (by intro e he;cases he) ty x;have JE:=xO hs (c:= []) (ty:=ty) (x:=x);rw[h1]at hr JE;exact xL h hs hd hr JE hn
 ·rw[h2]at h;exact gy h hs hd (FZ hT hs) hn
theorem F0(hT:bw P T)(hs:bR T n g0 w0 S g a w){o:Oper}{x:Operand}(ho:o.op= .move x){apps:List Nat}(h:oH apps S o.dst x (bO T S [] o.type x) K)(hd:∀e,o.dst=some e→e<n)(hn:Rest T n g0 w0 K next){Q:Exit→Act→World→Prop} :
  o.wp P a w next Q:=by
 have cn:(execOp a.eval o).run P w= .ok (.value (a.eval x)) w:=by simp[execOp,ho]
 refine cW cn ?_;have mM:=FZ hT hs (ty:=o.type) (x:=x);unfold oH at h;rw[a9]at h;split at h
 ·rename_i sz rows he;rw[he]at mM;rcases tb (a:=a) he with⟨s,rfl,hg⟩ | ⟨dA,rfl,hx⟩
  ·simp only at h;cases rr:sS apps o.dst with
   | false=>
    rw[rr]at h;exact gy h hs hd mM hn
   | true=>
    rw[rr]at h;simp only[cond_true]at h;split at h
    ·rename_i d cE;cases Z4:Nat.beq d s with
     | true=>rw[Z4]at h;exact h.elim
     | false=>
      rw[Z4]at h;have dA:=beq_false.1 Z4;obtain⟨hl,hk⟩:=bP (show S.gG d (.cp (.slot s) sz rows) (fun S=>K (S.cA s))from h);have DY:=hs.bH s;rw[hg]at DY;have WL:=getD_some (dG.Lz DY);have pC:d<a.tmps.size:=by rw[hs.size];exact hd d cE
      have LA:bR T n g0 w0 ((S.cA s).put d (.cp (.slot s) sz rows)) g (a.put (some d) (a.eval (.tmp s))) w:=by
       refine(hs.cA s).put (hd d cE) ?_ ⟨aA.eg mM,?_,fun l i e=>by cases e⟩ (fun agb sz rows e=>by cases e;exact rZ _ _) (fun l e=>by cases e) (fun sz rows e=>by cases e) (fun s wt v' e=>by cases e)
       ·show(bif Nat.beq s d then true else S.lock d)=false;rw[beq_false.2 (fun e=>dA e.symm)];exact hl
       ·simp only[Aj];rw[Go.Hm.di _ _ _ _ pC,if_neg dA];exact WL
      rw[cE];exact hn ((S.cA s).put d (.cp (.slot s) sz rows)) _ _ _ hk LA
    ·exact h.elim
  ·cases x with
   | tmp s=>exact absurd rfl (dA s)
   | _=>
    simp only at h;cases cE:o.dst with
    | none=>rw[cE]at h;exact hn _ _ _ _ h hs
    | some d=>
     rw[cE]at h;exact my h hs (hd d cE) (.inl ⟨rfl,hx⟩) hn
 ·exact HO hT hs h hd hn
theorem BT(hT:bw P T)(hs:bR T n g0 w0 S g a w){o:Oper}{x:Operand}(ho:o.op= .assign x)(h:kr S o.dst x (bO T S [] o.type x) K)(hd:∀e,o.dst=some e→e<n)(hn:Rest T n g0 w0 K next){Q:Exit→Act→World→Prop} :
  o.wp P a w next Q:=by
 have cn:(execOp a.eval o).run P w= .ok (.value (a.eval x)) w:=by simp[execOp,ho]
 refine cW cn ?_;have mM:=FZ hT hs (ty:=o.type) (x:=x);unfold kr at h;rw[a9]at h;split at h
 ·rename_i sz rows he;rw[he]at mM;rcases tb (a:=a) he with⟨s,rfl,hg⟩ | ⟨dA,rfl,hx⟩
  ·simp only at h;obtain⟨hl,hk⟩:=bP h;have gY:=hs.weaken hl mM;have DY:=hs.bH s;rw[hg]at DY;cases cE:o.dst with
   | none=>rw[cE]at hk;exact hn _ _ _ _ hk gY
   | some d=>
    rw[cE]at hk;obtain⟨g1,hc,hO,hH,vR⟩:=dG.hand (q':= .slot d) hs.fresh DY;have kf:bR T n g0 w0 (S.put s (.p (.sl sz rows))) g1 a w:=by
     refine gY.jq hc (by simp) (fun t ht=>?_) (fun l b hb hx=>?_) (fun t l _=>by simp) (fun k hk=>gY.live k (vR _ hk))
     ·injection ht with ht
      injection ht with ht
      subst ht;rw[St.di,if_pos rfl];exact .of (mM.ext hc.ge)
     ·rcases hx with hx | ⟨i,hx⟩
      ·cases hx
      ·injection hx with hx;cases hx
    exact my hk kf (hd d cE) hO hn
  ·cases x with
   | tmp s=>exact absurd rfl (dA s)
   | _=>
    simp only at h;cases cE:o.dst with
    | none=>rw[cE]at h;exact hn _ _ _ _ h hs
    | some d=>
     rw[cE]at h;exact my h hs (hd d cE) (.inl ⟨rfl,hx⟩) hn
 ·exact HO hT hs h hd hn
def G.new(g:G)(b m:Nat)(k:BK)(B:Loc→Nat):G:=⟨fun c=>if c=b then m else g.H c,fun c=>if c=b then k else g.K c,B,g.D⟩
theorem qD(hf:eW g w)(o:Obj)(hz:∀a,(w.alloc o).frozen? a=w.frozen? a)(m:Nat)(k:BK)(B:Loc→Nat)(hB:∀l,g.K (g.B l)= .box l→B l=g.B l):j8 (fun _=>False) g w (g.new w.heap.size m k B) (w.alloc o) where
 os:=rfl
 tape:=rfl
 output:=rfl
 size:=by simp
 same b hb _:=⟨RowKit.Below.heap_alloc w o b hb,by simp only[G.new];rw[if_neg (by omega)],by simp only[G.new];rw[if_neg (by omega)]⟩
 ge:=by
  refine⟨⟨fun b=>?_,fun b i hi=>?_,fun b xs c h0 hm=>?_⟩,fun l hl=>?_⟩
  ·simp only[G.new];split
   ·rename_i e;subst e;rw[(hf _ (Nat.le_refl _)).1];exact Nat.zero_le _
   ·exact Nat.le_refl _
  ·have hb:b≠w.heap.size:=by
    intro e;subst e;rw[(hf _ (Nat.le_refl _)).1]at hi;omega
   exact World.cell?_alloc_old w o ⟨b,i,none⟩ hb
  ·exact(RowKit.Below.heap_alloc w o b (bJ hm)).trans hm
  ·have dA:g.B l≠w.heap.size:=by
    intro e;rw[e,(hf _ (Nat.le_refl _)).2]at hl;cases hl
   refine⟨hB l hl,?_⟩;simp only[G.new];rw[if_neg dA];exact hl
 fresh b hb:=by
  rw[World.size_alloc]at hb;simp only[G.new];rw[if_neg (by omega),if_neg (by omega)];exact hf b (by omega)
 fz a _:=hz a
theorem lS(hf:eW g w){m:Nat}{k:BK}(hk:∀l,k≠ .box l)(l:Loc)(h:(g.new w.heap.size m k g.B).K ((g.new w.heap.size m k g.B).B l)= .box l):g.K (g.B l)= .box l:=by
 have h:(if g.B l=w.heap.size then k else g.K (g.B l))= .box l:=h;split at h
 ·exact absurd h (hk l)
 ·exact h
theorem jc(w:World)(o:Obj):(w.alloc o).heap[w.heap.size]? =some o:=by
 show(w.heap.push o)[w.heap.size]? =_;simp
theorem LB{ev:Operand→AV}(dq:∀x,cU g w (ev x) (a.eval x)){sz:Nat}(parts:List (Nat×Operand)):∀ {k:Nat} {rows:List (List PV)},xD ev sz k parts=some rows→
  (∀r∈rows,r.length=sz)∧(parts.map fun p=>(p.1,a.eval p.2))=(((parts.map fun p=>a.eval p.2).zipIdx k).map fun x=>(x.2,x.1))∧
  rows.length=parts.length∧(∀v∈parts.map (fun p=>a.eval p.2),v.cells.size=sz)∧dg w g.H rows.flatten ((parts.map fun p=>a.eval p.2).flatMap fun v=>v.cells.toList):=by
 induction parts with
 | nil=>
  intro k rows h;cases h;exact⟨by simp,rfl,rfl,by simp,rfl,by simp⟩
 | cons p r ih=>
  obtain⟨i,x⟩:=p;intro k rows h;unfold xD at h;split at h
  ·rename_i c hc;cases hb:(Nat.beq i k&&Nat.beq c.length sz)with
   | false=>rw[hb]at h;cases h
   | true=>
    rw[hb]at h;simp only[cond_true]at h;rw[Bool.and_eq_true]at hb;have hi:=beq_true.1 hb.1;have hl:=beq_true.1 hb.2;subst hi;split at h
    ·rename_i l m5;cases h;obtain⟨h1,h2,h3,h4,h5⟩:=ih m5;have hr:=fm (dq x) hc;have dZ:(a.eval x).cells.size=sz:=by have:=hr.1;simp at this;omega
     refine⟨?_,?_,by simp[h3],?_,?_⟩
     ·intro agf rh;rcases List.mem_cons.1 rh with rfl | rh
      ·exact hl
      ·exact h1 agf rh
     ·simp only[List.map_cons,List.zipIdx_cons];rw[h2]
     ·intro v hv;simp only[List.map_cons]at hv;rcases List.mem_cons.1 hv with rfl | hv
      ·exact dZ
      ·exact h4 v hv
     ·simp only[List.map_cons,List.flatMap_cons,List.flatten_cons];refine⟨by rw[List.length_append,List.length_append,hr.1,h5.1],fun j u y hu hy=>?_⟩;by_cases hj:j<c.length
      ·rw[List.getElem?_append_left hj]at hu;rw[List.getElem?_append_left (by have:=hr.1;omega)]at hy;exact hr.2 _ _ _ hu hy
      ·rw[List.getElem?_append_right (by omega)]at hu;rw[List.getElem?_append_right (by have:=hr.1;omega),←hr.1]at hy;exact h5.2 _ _ _ hu hy
    ·cases h
  ·cases h
theorem PB{ev:Operand→AV}(dq:∀x,cU g w (ev x) (a.eval x))(parts:List (Nat×Operand)):∀ {k:Nat} {vs:List AV},FP ev k parts=some vs→
  (parts.map fun p=>(p.1,a.eval p.2))=(((parts.map fun p=>a.eval p.2).zipIdx k).map fun x=>(x.2,x.1))∧
  vs.length=parts.length∧(∀v∈parts.map (fun p=>a.eval p.2),v.cells.size=1)∧((parts.map fun p=>a.eval p.2).flatMap fun v=>v.cells.toList)=parts.map (fun p=>a.eval p.2)∧
  ∀(j:Nat) v x,vs[j]? =some v→(parts.map fun p=>a.eval p.2)[j]? =some x→aA g w v x:=by
 induction parts with
 | nil=>
  intro k vs h;cases h;exact⟨rfl,rfl,by simp,rfl,by simp⟩
 | cons p r ih=>
  obtain⟨i,x⟩:=p;intro k vs h;unfold FP at h;split at h
  ·rename_i f c d hf;cases hb:Nat.beq i k with
   | false=>rw[hb]at h;cases h
   | true=>
    rw[hb]at h;have hi:=beq_true.1 hb;subst hi;simp only[cond_true]at h;split at h
    ·rename_i l m5;cases h;obtain⟨h2,h3,h4,h5,h6⟩:=ih m5;have hr:=dq x;rw[hf]at hr;have hr:aA g w (.fn f c d) (a.eval x):=hr;have rX:(a.eval x).cells= #[a.eval x]:=by
      generalize a.eval x=y at hr;cases hr;rfl
     refine⟨?_,by simp[h3],?_,?_,?_⟩
     ·simp only[List.map_cons,List.zipIdx_cons];rw[h2]
     ·intro v hv;simp only[List.map_cons]at hv;rcases List.mem_cons.1 hv with rfl | hv
      ·rw[rX];rfl
      ·exact h4 v hv
     ·simp only[List.map_cons,List.flatMap_cons,rX,h5];rfl
     ·intro j v y hv hy;cases j with
      | zero=>simp at hv hy;subst hv;subst hy;exact hr
      | succ j=>exact h6 j v y (by simpa using hv) (by simpa using hy)
    ·cases h
  ·cases h
theorem xP(hT:bw P T){t e:TypeId}{ie:TI}(oM:T.elem t=some e)(fQ:T e=some ie){len:Nat}{parts:Array (Nat×Value)}{vs:List Value}(h1:1≤ie.size)(h2:len*ie.size≤16777216)
  (hp:parts.toList=(vs.zipIdx 0).map fun x=>(x.2,x.1)) (hl:vs.length=len) (hv:∀v∈vs,v.cells.size=ie.size):
  (Instr.buildSlice t len parts).run P w= .ok (.slice (some ⟨w.heap.size,0,none⟩) len len) (w.alloc (.cells (vs.flatMap fun v=>v.cells.toList).toArray e)):=by
 have hu:P.underlying t=some (.slice e):=by
  unfold TE.elem at oM;split at oM
  ·rename_i hh;cases oM;exact ga hT hh
  ·cases oM
 obtain⟨ti,z,k1,k2,k3,k4,k5,k6,k7⟩:=hT.info e ie fQ;have hz:(zeroValue e).run P w= .ok z w:=by simp[zeroValue,typeInfo,k1,k5]
 have Al:∀cells:Array Value,cells.size=len*ie.size→Instr.fill (fun i=>some (i*ie.size,ie.size)) cells parts.toList=some (vs.flatMap fun v=>v.cells.toList).toArray:=by
  intro cells hc;rw[hp];exact Great.fill_whole (by omega) vs cells hv (by rw[hl,hc])
 unfold Instr.buildSlice;rw[Sem.run_bind,bl hu];simp only[Result.andThen_ok];rw[Sem.run_bind,dp hT fQ];simp only[Result.andThen_ok];rw[if_neg (by omega)];by_cases h0:len*ie.size=0
 ·simp only[h0,if_true,Sem.run_bind,Sem.run_pure,Result.andThen_ok,pure_bind];rw[Al _ (by simp[h0])];simp[newRow]
 ·simp only[h0,if_false,Sem.run_bind,hz,Sem.run_pure,Result.andThen_ok,pure_bind,bind_assoc];rw[Al _ (by simp)];simp[newRow]
theorem xQ{sz:Nat}{vs:List Value}(h:∀v∈vs,v.cells.size=sz):(vs.flatMap fun v=>v.cells.toList).length=vs.length*sz:=by
 induction vs with
 | nil=>simp
 | cons v l ih=>
  rw[List.flatMap_cons,List.length_append,ih (fun u hu=>h u (by simp[hu])),List.length_cons,Nat.succ_mul,Array.length_toList,h v (by simp),Nat.add_comm]
theorem uN(hT:bw P T)(hs:bR T n g0 w0 S g a w){o:Oper}{t:TypeId}{len:Nat}{parts:Array (Nat×Operand)}(ho:o.op= .buildSlice t len parts)(h:gX S o.dst [] none (jv T (bO T S [] 0) t len parts.toList) K)
  (hd:∀e,o.dst=some e→e<n) (hn:Rest T n g0 w0 K next) {Q:Exit→Act→World→Prop} :o.wp P a w next Q:=by
 have dq:∀x,cU g w (bO T S [] 0 x) (a.eval x):=fun x=>bN hT hs (c:= []) (by intro e he;cases he) 0 x
 unfold jv at h;split at h
 ·rename_i e oM;cases hb:(Nat.ble 1 (T.size e)&&Nat.ble (len*T.size e) 16777216)with
  | false=>rw[hb]at h;exact h.elim
  | true=>
   rw[hb]at h;simp only[cond_true]at h;rw[Bool.and_eq_true]at hb;have h1:=Nat.le_of_ble_eq_true hb.1;have h2:=Nat.le_of_ble_eq_true hb.2;obtain⟨ie,fQ⟩:∃ie,T e=some ie:=by
    cases hx:T e with
    | none=>simp[TE.size,hx]at h1
    | some i=>exact⟨i,rfl⟩
   have BN:T.size e=ie.size:=by simp[TE.size,fQ]
   rw[BN]at h1 h2;have cn:∀vs:List Value,(parts.toList.map fun p=>(p.1,a.eval p.2))=((vs.zipIdx 0).map fun x=>(x.2,x.1))→vs.length=len→(∀v∈vs,v.cells.size=ie.size)→
     (execOp a.eval o).run P w= .ok (.value (.slice (some ⟨w.heap.size,0,none⟩) len len)) (w.alloc (.cells (vs.flatMap fun v=>v.cells.toList).toArray e)):=by
    intro vs k1 k2 k3;have:=xP (w:=w) hT oM fQ (parts:=parts.map fun(x:Nat×Operand)=>(x.1,a.eval x.2)) h1 h2 (by simpa using k1) k2 k3;simp only[execOp,ho,Sem.run_bind,this,Result.andThen_ok,Sem.run_pure]
   split at h
   ·rename_i rows lO;cases DF:Nat.beq rows.length len with
    | false=>rw[DF]at h;exact h.elim
    | true=>
     rw[DF]at h;simp only[cond_true]at h;have hlen:=beq_true.1 DF;rw[BN]at lO h;obtain⟨k1,k2,k3,k4,k5⟩:=LB dq parts.toList lO;have j4:parts.toList.length=len:=by omega
     refine cW (cn _ k2 (by rw[List.length_map];exact j4) k4) ?_;have h:=(a9 (.own ie.size rows) fun v=>bT S o.dst v K).1 h;have Z5:len≤maxLen:=by unfold maxLen;have:=Nat.le_mul_of_pos_right len (show 0<ie.size by omega);omega
     cases cE:o.dst with
     | none=>
      rw[cE]at h;exact hn _ _ _ _ h (hs.grow (qD hs.fresh _ (Go.RowKit.frozen?_alloc_cells w _ _) 0 .none g.B (fun _ _=>rfl)) (fun k=>lS hs.fresh (by simp) _))
     | some d=>
      rw[cE]at h;have hc:=qD hs.fresh (.cells ((parts.toList.map fun p=>a.eval p.2).flatMap fun v=>v.cells.toList).toArray e) (Go.RowKit.frozen?_alloc_cells w _ _) (rows.length*ie.size) (.cw (.slot d)) g.B (fun _ _=>rfl);refine my h (hs.grow hc (fun k=>lS hs.fresh (by simp) _)) (hd d cE) (.inr ⟨w.heap.size,len,_,e,by rw[hlen],jc w _,by omega,Z5,?_,k1,?_,by simp[G.new],by simp[G.new]⟩) hn
      ·rw[List.size_toArray,xQ k4,List.length_map,j4]
      ·rw[List.take_of_length_le (by rw[Array.length_toList,List.size_toArray,xQ k4,List.length_map,k3];exact Nat.le_refl _)];exact k5.ext hc.ge.ext
   ·rename_i lO;split at h
    ·rename_i vs hvs;cases DF:(Nat.beq vs.length len&&Nat.beq (T.size e) 1)with
     | false=>rw[DF]at h;exact h.elim
     | true=>
      rw[DF]at h;simp only[cond_true]at h;rw[Bool.and_eq_true]at DF;have hlen:=beq_true.1 DF.1;have K7:=beq_true.1 DF.2;obtain⟨k2,k3,k4,k5,k6⟩:=PB dq parts.toList hvs;rw[BN]at K7;have j4:parts.toList.length=len:=by omega
      have hr:=cn _ k2 (by rw[List.length_map];exact j4) (by rw[K7];exact k4);rw[k5]at hr;refine cW hr ?_;have h:=(a9 (.xz vs) fun v=>bT S o.dst v K).1 h;have hc:=qD hs.fresh (.cells (parts.toList.map fun p=>a.eval p.2).toArray e) (Go.RowKit.frozen?_alloc_cells w _ _) len .none g.B (fun _ _=>rfl);have gu:=hs.grow hc (fun k=>lS hs.fresh (by simp) _);refine gy h gu hd ?_ hn;have hA:aA (g.new w.heap.size len .none g.B) (w.alloc (.cells (parts.toList.map fun p=>a.eval p.2).toArray e)) (.xz vs) (.slice (some ⟨w.heap.size,0,none⟩) vs.length len):=by
       have hx:∀(j:Nat) u,vs[j]? =some u→ ∃x,(parts.toList.map fun p=>a.eval p.2)[j]? =some x∧aA g w u x:=by
        intro j u hj;have aN:=(List.getElem?_eq_some_iff.1 hj).1;have:(parts.toList.map fun p=>a.eval p.2)[j]? =some ((parts.toList.map fun p=>a.eval p.2)[j]'(by rw[List.length_map];omega)):=List.getElem?_eq_getElem _;exact⟨_,this,k6 j u _ hj this⟩
       refine .xz (fun j=>((parts.toList.map fun p=>a.eval p.2)[j]?).getD undef) (by omega) (by simp[G.new];omega) (fun j u hj=>?_) (fun j u hj=>?_)
       ·obtain⟨x,e1,e2⟩:=hx j u hj;rw[Nat.zero_add,World.cell?_alloc_new,List.getElem?_toArray,e1];rfl
       ·obtain⟨x,e1,e2⟩:=hx j u hj;rw[e1];exact e2.ext hc.ge
      rw[hlen]at hA;exact hA
    ·exact h.elim
 ·exact h.elim
end
section
variable {T:TE} {S:St}
def nC.Ao:nC→Prop
 | .no=>True
 | .val v=>dh v=none
 | .ka p v=>dh v=none
 | .qZ p v=>∀z,dh (v z)=none
 | .Ae p v=>∀z,dh (v z)=none
 | .DE p v=>∀z,dh (v z)=none
theorem nC.Ao.Se{r:nC}(h:r.Ao):r.Se S:=by
 cases r with
 | no=>trivial
 | val v=>exact ke h
 | ka p v=>exact ke h
 | qZ p v=>exact fun z=>ke (h z)
 | Ae p v=>exact fun z=>ke (h z)
 | DE p v=>exact fun z=>ke (h z)
theorem gW{b:Bool}{x y:nC}(hx:x.Ao)(hy:y.Ao):(bif b then x else y).Ao:=by cases b<;>assumption
theorem Z6:nC.Ao .no:=trivial
theorem acf{v:PV} :dh (.p v)=none:=rfl
theorem F3(op:BinOp)(k:IntKind)(x y:Int):(BF op k x y).Ao:=by
 cases op<;>first | trivial | rfl | (intro z;rfl)
theorem F4(op:BinOp)(x y:List UInt8):(BG op x y).Ao:=by
 cases op<;>first | trivial | rfl
theorem LC(op:BinOp)(t:TypeId)(x y:AV):(Lk T op t x y).Ao:=by
 unfold Lk;split
 ·split
  ·intro z;rfl
  ·intro z;rfl
  ·split
   ·exact F3 _ _ _ _
   ·trivial
 ·refine gW ?_ trivial;split<;>first | trivial | rfl
 ·exact F4 _ _ _
 ·refine gW ?_ trivial;split<;>first | trivial | rfl
 ·trivial
theorem PC(op:UnOp)(x:AV):(WB op x).Ao:=by
 unfold WB;split<;>first | trivial | rfl | (intro z;rfl)
theorem xR(s:TypeId)(x:AV)(f:Nat):(gw T s x f).Ao:=by
 unfold gw;split<;>first | trivial | rfl
theorem xS(t:TypeId)(x i:AV):(lK T t x i).Ao:=by
 unfold lK;split
 ·split
  ·split
   ·exact gW (fun z=>rfl) trivial
   ·split
    ·exact gW rfl trivial
    ·exact gW rfl trivial
    ·trivial
  ·split<;>first | trivial | rfl
  ·trivial
 ·trivial
theorem F5(s:TypeId)(x:AV)(f:Nat):(xA T s x f).Ao:=by
 unfold xA;split
 ·split
  ·refine gW rfl ?_;split<;>first | trivial | rfl
  ·trivial
 ·trivial
theorem F6(t:TypeId)(x i:AV):(xB T t x i).Ao:=by
 unfold xB;split
 ·split
  ·exact gW rfl trivial
  ·split
   ·exact gW (fun z=>rfl) (fun z=>by show dh (match z with | [v]=> .p v | _=> .dead)=none;split<;>rfl)
   ·trivial
  ·split
   ·exact gW trivial (gW (jP _) trivial)
   ·trivial
  ·trivial
 ·trivial
theorem BU(x:AV)(i:Nat):(po x i).Ao:=by
 unfold po;split
 ·split
  ·exact jP _
  ·trivial
 ·trivial
theorem zO(x:AV):(lD x).Ao:=by
 unfold lD;split<;>first | trivial | rfl
theorem LD(t:TypeId)(x:AV):(Ll T t x).Ao:=by
 unfold Ll;split<;>first | exact gW (fun z=>rfl) trivial | exact gW rfl trivial | trivial
theorem F7(t:TypeId)(x:AV)(lo hi:Option AV):(rO T t x lo hi).Ao:=by
 unfold rO;split
 ·split
  ·exact gW rfl trivial
  ·trivial
 all_goals first | trivial | skip
 all_goals
  split
  ·rfl
  ·split
   ·exact gW (fun z=>rfl) trivial
   ·trivial
  ·trivial
theorem JG(t agh:TypeId)(x:AV):(DO T t agh x).Ao:=by
 unfold DO;split<;>first | trivial | (intro z;rfl)
theorem JH(c:bq)(o:Oper):(bn T S c o).Ao:=by
 unfold bn;simp only;split
 ·split
  ·split
   ·split
    ·rfl
    ·trivial
   ·trivial
  ·trivial
 ·exact LC _ _ _ _
 ·exact PC _ _
 ·exact xR _ _ _
 ·exact F5 _ _ _
 ·exact xS _ _ _
 ·exact F6 _ _ _
 ·exact BU _ _
 ·exact zO _
 ·exact F7 _ _ _ _
 ·split
  ·split
   ·split<;>first | trivial | rfl
   ·trivial
  ·split
   ·split<;>first | trivial | rfl
   ·trivial
  ·trivial
 ·exact JG _ _ _
 ·rfl
 ·split
  ·exact LD _ _
  ·trivial
 ·trivial
theorem na{t:TypeId}{n o:Nat}{cs:List PV}{v:AV}(h:mX T t n cs o=some v):dh v=none:=by
 unfold mX at h;split at h
 ·cases hb:T.isAgg t with
  | true=>
   rw[hb]at h;simp only[cond_true]at h;revert h;cases(Nat.beq _ _&&Nat.beq o 0)with
   | true=>intro h;cases h;rfl
   | false=>
    cases Nat.ble _ _ with
    | true=>intro h;cases h;rfl
    | false=>intro h;cases h
  | false=>
   rw[hb]at h;simp only[cond_false]at h;split at h
   ·cases h;rfl
   ·cases h
 ·cases h
end
section
variable {P:Program} {T:TE} {n:Nat} {g0 g g':G} {w0 w w':World} {S:St} {a:Act} {ops:List Oper} {next:Act→World→Prop} {K:St→Prop} {X:BK→Prop}
theorem tc(b o:Nat):∀(ys:List Value) (i:Nat) (acc:Array Value),(∀(j:Nat) y,ys[j]? =some y→w.cell? ⟨b,o+(i+j),none⟩=some y)→
  (loadCellsFrom ⟨b,o,none⟩ i ys.length acc).run P w= .ok (acc++ys.toArray) w:=by
 intro ys;induction ys with
 | nil=>intro i acc h;simp[loadCellsFrom]
 | cons y ys ih=>
  intro i acc h;have h0:=h 0 y rfl;simp only[List.length_cons,loadCellsFrom,Sem.run_bind,run_load,Addr.add_eq];rw[show o+i=o+(i+0)by omega,h0];simp only[Result.andThen_ok];rw[ih (i+1) _ (fun j z hz=>by rw[show i+1+j=i+(j+1)by omega];exact h (j+1) z (by simpa using hz))];congr 1;apply Array.ext';simp
theorem vS(hT:bw P T){t:TypeId}{i:TI}(hi:T t=some i)(dJ:T.isAgg t=true){b o:Nat}{ys:List Value}(hl:ys.length=i.size)(h:∀(j:Nat) y,ys[j]? =some y→w.cell? ⟨b,o+j,none⟩=some y):
  (loadVar t ⟨b,o,none⟩).run P w= .ok (.agg ys.toArray) w:=by
 unfold loadVar;rw[Sem.run_bind,iC hT hi,dJ];simp only[Result.andThen_ok,if_true,Sem.run_bind,dp hT hi];unfold loadCells;rw[←hl,tc b o ys 0 #[] (fun j y hj=>by rw[Nat.zero_add];exact h j y hj)];simp
theorem jA(hT:bw P T){t:TypeId}{i:TI}(hi:T t=some i)(dJ:T.isAgg t=false){b o:Nat}{y:Value}(h:w.cell? ⟨b,o,none⟩=some y):(loadVar t ⟨b,o,none⟩).run P w= .ok y w:=by
 unfold loadVar;rw[Sem.run_bind,iC hT hi,dJ];simp only[Result.andThen_ok,Bool.false_eq_true,if_false,run_load,h]
theorem jd{o:Oper}{t:TypeId}{x:Operand}(ho:o.op= .load t x){ad:Addr}(hx:a.eval x= .pointer (some ad)){y:Value}(h:(loadVar t ad).run P w= .ok y w):(execOp a.eval o).run P w= .ok (.value y) w:=by
 simp only[execOp,ho,hx,Instr.loadAt,Instr.sureAddr,Sem.run_bind,Sem.run_pure,Result.andThen_ok,h]
theorem xb(hT:bw P T){t:TypeId}{oF off:Nat}{cs:List PV}{v:AV}(h:mX T t oF cs off=some v){b o:Nat}(WM:cs.length=oF)
  (hc:∀(j:Nat) u,cs[j]? =some u→ ∃x,w.cell? ⟨b,o+j,none⟩=some x∧cK w g.H u x):∃y,(loadVar t ⟨b,o+off,none⟩).run P w= .ok y w∧aA g w v y:=by
 unfold mX at h;split at h
 ·rename_i i hi;cases dJ:T.isAgg t with
  | true=>
   rw[dJ]at h;simp only[cond_true]at h;have key:off+i.size≤cs.length→v= .agg ((cs.drop off).take i.size)→ ∃y,(loadVar t ⟨b,o+off,none⟩).run P w= .ok y w∧aA g w v y:=by
    intro hle hv;subst hv
    let ys:List Value:=(List.range i.size).map fun j=>((w.cell? ⟨b,o+(off+j),none⟩)).getD undef
    have hy:∀(j:Nat) y,ys[j]? =some y→j<i.size∧w.cell? ⟨b,o+off+j,none⟩=some y∧ ∀u,cs[off+j]? =some u→cK w g.H u y:=by
     intro j y hj;simp only[ys,List.getElem?_map,Option.map_eq_some_iff]at hj;obtain⟨q,hq,rfl⟩:=hj;have aN:j<i.size:=by have:=(List.getElem?_eq_some_iff.1 hq).1;simpa using this
     have:q=j:=by
      rw[List.getElem?_range aN]at hq;exact(Option.some.inj hq).symm
     subst this;have hu:cs[off+q]? =some (cs[off+q]'(by omega)):=List.getElem?_eq_getElem _;obtain⟨x,hx,hp⟩:=hc _ _ hu;rw[hx];refine⟨aN,by rw[Nat.add_assoc];exact hx,fun u Zb=>?_⟩;rw[hu]at Zb;cases Zb;exact hp
    refine⟨_,vS hT hi dJ (ys:=ys) (by simp[ys]) (fun j y hj=>(hy j y hj).2.1),.agg ⟨?_,fun j u x hu hx=>?_⟩⟩
    ·simp[ys];omega
    ·simp only[List.toList_toArray]at hx;obtain⟨h1,h2,h3⟩:=hy j x hx;rw[List.getElem?_take_of_lt h1,List.getElem?_drop]at hu;exact h3 u hu
   cases hw:(Nat.beq i.size oF&&Nat.beq off 0)with
   | true=>
    rw[hw]at h;rw[Bool.and_eq_true]at hw;have e1:=beq_true.1 hw.1;have e2:=beq_true.1 hw.2;subst e2;simp only[cond_true,Option.some.injEq]at h;exact key (by omega) (by rw[←h,List.drop_zero,List.take_of_length_le (by omega)])
   | false=>
    rw[hw]at h;simp only[cond_false]at h;cases hle:Nat.ble (off+i.size) oF with
    | false=>rw[hle]at h;cases h
    | true=>
     rw[hle]at h;simp only[cond_true,Option.some.injEq]at h;have:=Nat.le_of_ble_eq_true hle;exact key (by omega) (by rw[←h,gf,jb])
  | false=>
   rw[dJ]at h;simp only[cond_false]at h;split at h
   ·rename_i u hu;cases h;rw[eG]at hu;obtain⟨x,hx,hp⟩:=hc off u hu;exact⟨x,jA hT hi dJ hx,.p hp⟩
   ·cases h
 ·cases h
theorem bF{b:Nat}{xs:Array Value}{t:TypeId}{fr:Nat×Nat}(h:w.heap[b]? =some (.cells xs t fr))(i:Nat):w.cell? ⟨b,i,none⟩=xs[i]? :=by
 simp[World.cell?,h]
theorem fk.K6{l:Loc}{i:Nat}{v:AV}{x:Value}(h:fk g w l i v x):cU g w v x:=by
 cases v with
 | own sz rows=>exact dG.K3 h
 | cp q sz rows=>exact(aA.lQ h).elim
 | mo sz rows=>trivial
 | _=>exact aA.K6 h
theorem BV(hT:bw P T)(hs:bR T n g0 w0 S g a w){o:Oper}{t:TypeId}{x:Operand}(ho:o.op= .load t x){apps:List Nat}{dst:Option Nat}{u:AV}(hx:cU g w u (a.eval x)){KK:AV→(St→Prop)→Prop}{agi:St→Prop}(h:gp T apps S dst t u KK agi):
  ∃v y,(execOp a.eval o).run P w= .ok (.value y) w∧((KK v agi∧aA g w v y)∨
   (∃l off sz rows b,S.bx l=some b∧(sS apps dst=true∧1≤sz)∧v= .cp (.cell l off) sz rows∧KK v (fun S=>agi ⟨S.get,S.bx,S.lock,true⟩)∧cK w g.H (.sl sz rows) y∧w.cell? ⟨g.B l,off,none⟩=some y)∨
   (∃l off sz m b,S.bx l=some b∧v= .vw l off sz m∧KK v (fun S=>agi ⟨S.get,S.bx,S.lock,true⟩)∧ia g w v y)):=by
 unfold gp at h;split at h
 ·rename_i l off;obtain⟨ex,hK⟩:=jm hx;split at h
  ·rename_i ty cs hb;obtain⟨_,hH,xs,agh,hh,dZ,hc⟩:=hs.boxes l _ hb;split at h
   ·rename_i v hv;obtain⟨y,hy,hr⟩:=xb (w:=w) (g:=g) hT hv (b:=g.B l) (o:=0) (by have:=hc.1;simp at this;omega) (fun j u hu=>by
     obtain⟨z,hz,hp⟩:=hc.at_ hu;rw[Nat.zero_add,bF hh];exact⟨z,by rw[←Array.getElem?_toList];exact hz,hp⟩)
    rw[Nat.zero_add]at hy;exact⟨v,y,jd ho ex hy,.inl ⟨h,hr⟩⟩
   ·exact h.elim
  ·rename_i ty cs hb;obtain⟨_,hH,xs,agh,hh,dZ,hl,hc⟩:=hs.boxes l _ hb;split at h
   ·exact h.elim
   ·rename_i i hi;cases dJ:T.isAgg t with
    | true=>
     rw[dJ]at h;simp only[cond_true]at h;cases hle:Nat.ble (off+i.size) (T.size ty)with
     | false=>rw[hle]at h;exact h.elim
     | true=>
      rw[hle]at h;simp only[cond_true]at h;have adx:=Nat.le_of_ble_eq_true hle;have bU:∀(j:Nat) y,((xs.toList.drop off).take i.size)[j]? =some y→w.cell? ⟨g.B l,off+j,none⟩=some y:=by
       intro j y hj;have aN:j<i.size:=by have:=(List.getElem?_eq_some_iff.1 hj).1;rw[List.length_take]at this;omega
       rw[List.getElem?_take_of_lt aN,List.getElem?_drop]at hj;rw[bF hh,←Array.getElem?_toList];exact hj
      have xT:=jd ho ex (vS hT hi dJ (b:=g.B l) (o:=off) (ys:=(xs.toList.drop off).take i.size) (by simp;omega) bU);have DZ:∀(j:Nat) v y,(fe (gn cs off) i.size)[j]? =some v→((xs.toList.drop off).take i.size)[j]? =some y→fk g w l (off+j) v y:=by
       intro j v y hv hy;have aN:j<i.size:=by have:=(List.getElem?_eq_some_iff.1 hy).1;rw[List.length_take]at this;omega
       rw[gf,jb,List.getElem?_take_of_lt aN,List.getElem?_drop]at hv;rw[List.getElem?_take_of_lt aN,List.getElem?_drop,Array.getElem?_toList]at hy;exact hc _ v y hv hy
      have hlen:(fe (gn cs off) i.size).length=((xs.toList.drop off).take i.size).length:=by
       rw[gf,jb];simp;omega
      split at h
      ·rename_i ps j4;obtain⟨z1,z2⟩:=Ak j4;refine⟨_,_,xT,.inl ⟨h,.agg ⟨by simp only[List.toList_toArray];omega,fun j c y FD hy=>?_⟩⟩⟩;simp only[List.toList_toArray]at hy;have hj:j<(fe (gn cs off) i.size).length:=by have:=(List.getElem?_eq_some_iff.1 hy).1;omega
       have hv:(fe (gn cs off) i.size)[j]? =some ((fe (gn cs off) i.size)[j]'hj):=List.getElem?_eq_getElem hj;have hpc:=z2 j _ c hv FD;have hU:=(DZ j _ y hv hy).K6;generalize (fe (gn cs off) i.size)[j]=v at hpc hU;exact BP hU hpc
      ·refine⟨_,_,xT,.inl ⟨h,.mix (by simp only[List.length_map,List.size_toArray];exact hlen) (fun j u y hu hy=>?_)⟩⟩;rw[List.getElem?_map,Option.map_eq_some_iff]at hu;obtain⟨v,hv,rfl⟩:=hu;rw[List.getElem?_toArray]at hy;exact(DZ j v y hv hy).K6.lf
    | false=>
     rw[dJ]at h;simp only[cond_false]at h;split at h
     ·rename_i sz rows hg;rw[eG]at hg;have hj:off<xs.size:=by have:=(List.getElem?_eq_some_iff.1 hg).1;omega
      have hy:xs[off]? =some xs[off]:=Array.getElem?_eq_getElem hj;have hk:fk g w l off (.own sz rows) xs[off]:=hc off _ _ hg hy;have bU:w.cell? ⟨g.B l,off,none⟩=some xs[off]:=by rw[bF hh];exact hy
      have xT:=jd ho ex (jA hT hi dJ bU);cases rr:(sS apps dst&&(Nat.ble 1 sz&&T.jH t))with
      | true=>
       rw[rr]at h;rw[Bool.and_eq_true,Bool.and_eq_true]at rr;exact⟨_,_,xT,.inr (.inl ⟨l,off,sz,rows,_,hb,⟨rr.1,Nat.le_of_ble_eq_true rr.2.1⟩,rfl,h,dG.K3 hk,bU⟩)⟩
      | false=>
       rw[rr]at h;exact⟨_,_,xT,.inl ⟨h,.p (dG.K3 hk)⟩⟩
     ·rename_i sz rows hg;rw[eG]at hg;have hj:off<xs.size:=by have:=(List.getElem?_eq_some_iff.1 hg).1;omega
      have hy:xs[off]? =some xs[off]:=Array.getElem?_eq_getElem hj;cases kC:T.jH t with
      | false=>rw[kC]at h;exact h.elim
      | true=>
      rw[kC]at h;simp only[cond_true]at h;have hk:fk g w l off (.mo sz rows) xs[off]:=hc off _ _ hg hy;have bU:w.cell? ⟨g.B l,off,none⟩=some xs[off]:=by rw[bF hh];exact hy
      have xT:=jd ho ex (jA hT hi dJ bU);refine⟨_,_,xT,.inr (.inr ⟨l,off,sz,rows.length,_,hb,rfl,h,?_⟩)⟩;rcases hk with⟨h1,h2⟩ | ⟨b,cap,cur,e,h2,_,oL,_⟩
      ·exact⟨none,0,0,by rw[bU,h2],by rw[h1,h2];rfl,by rw[h1];exact Nat.le_refl _,.inl ⟨rfl,by rw[h1];rfl⟩⟩
      ·exact⟨_,_,_,by rw[bU,h2],h2,oL,.inr ⟨b,rfl⟩⟩
     ·rename_i v Zc WN hg;rw[eG]at hg;have hj:off<xs.size:=by have:=(List.getElem?_eq_some_iff.1 hg).1;omega
      have hy:xs[off]? =some xs[off]:=Array.getElem?_eq_getElem hj;have hk:fk g w l off v xs[off]:=hc off _ _ hg hy;have bU:w.cell? ⟨g.B l,off,none⟩=some xs[off]:=by rw[bF hh];exact hy
      exact⟨_,_,jd ho ex (jA hT hi dJ bU),.inl ⟨h,hk.K6.lf⟩⟩
     ·exact h.elim
  ·exact h.elim
 ·rename_i sz cs off;obtain⟨b,ob,ex,dP,hf⟩:=xI hx;split at h
  ·rename_i v hv;obtain⟨y,hy,hr⟩:=xb (w:=w) (g:=g) hT hv (b:=b) (o:=ob) dP hf.2;exact⟨v,y,jd ho ex hy,.inl ⟨h,hr⟩⟩
  ·exact h.elim
 ·rename_i v;have jz:aA g w (.iX v) (a.eval x):=hx;split at h
  ·rename_i i hi;cases dJ:T.isAgg t with
   | true=>rw[dJ]at h;exact h.elim
   | false=>
    rw[dJ]at h;generalize hv:a.eval x=y at jz;cases jz with
    | iX hH bU w7=>exact⟨_,_,jd ho hv (jA hT hi dJ bU),.inl ⟨h,w7.lf⟩⟩
  ·exact h.elim
 ·exact h.elim
end
section
variable {P:Program} {T:TE} {n:Nat} {g0 g g':G} {w0 w w':World} {S:St} {a:Act} {ops:List Oper} {next:Act→World→Prop} {K:St→Prop} {X:BK→Prop}
theorem bR.xc(h:bR T n g0 w0 S g a w):bR T n g0 w0 ⟨S.get,S.bx,S.lock,true⟩ g a w:=
 ⟨h.defers,h.size,h.bH,h.boxes,h.fresh,h.dc,fun t l e=>⟨rfl,(h.aJ t l e).2⟩,h.dm,h.de,h.live,h.frame⟩
theorem F8(hT:bw P T)(hs:bR T n g0 w0 S g a w){o:Oper}{t:TypeId}{x:Operand}(ho:o.op= .load t x){apps:List Nat}(h:gp T apps S o.dst t (bO T S [] 0 x) (fun v K=>v.force fun v=>bT S o.dst v K) K)
  (hd:∀e,o.dst=some e→e<n) (hn:Rest T n g0 w0 K next) {Q:Exit→Act→World→Prop} :o.wp P a w next Q:=by
 obtain⟨v,y,cn,h | ⟨l,off,sz,rows,b,hb,rr,hv,h,hp,hc⟩ | ⟨l,off,sz,m,b,hb,hv,h,hp⟩⟩:=BV hT hs ho (bN hT hs (c:= []) (by intro e he;cases he) 0 x) h
 ·exact cW cn (gy ((a9 v fun v=>bT S o.dst v K).1 h.1) hs hd h.2 hn)
 ·subst hv;refine cW cn ?_;have h:bT S o.dst (.cp (.cell l off) sz rows) (fun S=>K ⟨S.get,S.bx,S.lock,true⟩):=h;cases cE:o.dst with
  | none=>rw[cE]at rr;cases rr.1
  | some d=>
   rw[cE]at h;obtain⟨hl,hk⟩:=bP (show S.gG d (.cp (.cell l off) sz rows) (fun S=>K ⟨S.get,S.bx,S.lock,true⟩)from h);exact hn ((⟨S.get,S.bx,S.lock,true⟩:St).put d (.cp (.cell l off) sz rows)) _ _ _ hk (hs.xc.put (hd d cE) hl ⟨hp,hc,fun _ _ _=>rr.2⟩ (fun s sz rows e=>by cases e) (fun age e=>by cases e;exact⟨rfl,b,hb⟩) (fun sz rows e=>by cases e) (fun s wt v' e=>by cases e))
 ·subst hv;refine cW cn ?_;have h:bT S o.dst (.vw l off sz m) (fun S=>K ⟨S.get,S.bx,S.lock,true⟩):=h;have h2:bT ⟨S.get,S.bx,S.lock,true⟩ o.dst (.vw l off sz m) K:=by
   cases cE:o.dst with
   | none=>rw[cE]at h;exact h
   | some d=>rw[cE]at h;exact h
  exact xL h2 hs.xc hd hp (fun age e=>by cases e;exact⟨rfl,b,hb⟩) hn
theorem Loc.fJ{l m:Loc} :Loc.mI l m=true↔l=m:=by
 cases l<;>cases m<;>simp[Loc.mI,beq_true]
theorem Loc.lE{l m:Loc} :Loc.mI l m=false↔l≠m:=by
 constructor
 ·intro h e;rw[Loc.fJ.2 e]at h;cases h
 ·intro h;cases hb:Loc.mI l m
  ·rfl
  ·exact absurd (Loc.fJ.1 hb) h
theorem St.cM(S:St)(l m:Loc)(b:er):(S.bK l b).bx m=if l=m then some b else S.bx m:=by
 show(bif Loc.mI l m then some b else S.bx m)=_;by_cases h:l=m
 ·rw[Loc.fJ.2 h,if_pos h];rfl
 ·rw[Loc.lE.2 h,if_neg h];rfl
theorem bR.kb(hs:bR T n g0 w0 S g a w){d:Nat}(hb:S.bx (.own d)=none)(o:Obj)(hz:∀a,(w.alloc o).frozen? a=w.frozen? a)(bx:er)
  (ri:∀g',g'.H=(fun c=>if c=w.heap.size then 0 else g.H c)→g'.K w.heap.size= .box (.own d)→g'.B (.own d)=w.heap.size→uG g w g' (w.alloc o)→j8 (fun _=>False) g w g' (w.alloc o)→iB T g' (w.alloc o) (.own d) bx):
  ∃g',bR T n g0 w0 (S.bK (.own d) bx) g' a (w.alloc o)∧aA g' (w.alloc o) (.ptr (.own d) 0) (.pointer (some ⟨w.heap.size,0,none⟩)):=by
 have PD:g.K (g.B (.own d))≠ .box (.own d):=by
  intro h;obtain⟨b,mi⟩:=hs.live d h;rw[hb]at mi;cases mi
 let agx:Loc→Nat:=fun l=>if l= .own d then w.heap.size else g.B l
 let g':=g.new w.heap.size 0 (.box (.own d)) agx
 have hc:j8 (fun _=>False) g w g' (w.alloc o):=qD hs.fresh o hz 0 _ agx (fun l hl=>by
  show(if l= .own d then w.heap.size else g.B l)=g.B l;rw[if_neg (fun e=>by subst e;exact PD hl)])
 have hK:g'.K w.heap.size= .box (.own d):=by simp[g',G.new]
 have hB:g'.B (.own d)=w.heap.size:=by simp[g',G.new,agx]
 refine⟨g',?_,.ptr hB hK⟩;exact {
  defers:=hs.defers
  size:=hs.size
  bH:=fun t=>(hs.bH t).jq hc (fun x=>x) (fun l he=>by
   obtain⟨_,b,hb⟩:=hs.aJ t l he;exact⟨(hs.boxes l b hb).gV,fun x=>x⟩) (fun b hb=>(hs.fresh b hb).2)
  boxes:=fun l b fE=>by
   rw[St.cM]at fE;split at fE
   ·rename_i e;subst e;cases fE;exact ri g' rfl hK hB hc.ge hc
   ·exact(hs.boxes l b fE).jq hc (fun x=>x) (fun _ x=>x)
  fresh:=hc.fresh
  dc:=hs.dc
  aJ:=fun t l e=>by
   obtain⟨h1,b,h2⟩:=hs.aJ t l e;refine⟨h1,?_⟩;rw[St.cM];split
   ·exact⟨_,rfl⟩
   ·exact⟨b,h2⟩
  dm:=hs.dm
  de:=hs.de
  live:=fun k hk=>by
   rw[St.cM];split
   ·exact⟨_,rfl⟩
   ·rename_i dA;have WO:¬(Loc.own k= .own d):=fun e=>dA e.symm
    have e1:g'.B (.own k)=g.B (.own k):=by
     show(if Loc.own k= .own d then w.heap.size else g.B (.own k))=_;rw[if_neg WO]
    rw[e1]at hk;have hk:(if g.B (.own k)=w.heap.size then BK.box (.own d)else g.K (g.B (.own k)))= .box (.own k):=hk;split at hk
    ·injection hk with hk;exact absurd hk.symm WO
    ·exact hs.live k hk
  frame:=hc.frame (fun x=>x) hs.frame}
theorem F9{xs:Array Value}(t:TypeId)(w:World):(w.alloc (.cells xs t)).heap[w.heap.size]? =some (.cells xs t (0,0)):=jc w _
theorem JI{v:AV}{x:Value}(h:pD v x=true){q:Loc}{i:Nat} :fk g w q i v x:=by
 unfold pD at h;split at h
 ·rename_i k agc;have:k=agc:=by simpa using h
  subst this;exact aA.p (.int _ _)
 ·exact aA.p (.bool _)
 ·rename_i s;have:s.data= #[]:=by simpa using h
  have e:s=⟨([]:List UInt8).toArray⟩:=by cases s;simp_all
  rw[e];exact aA.p (.str _)
 ·exact aA.gm
 ·exact aA.aP
 ·exact aA.fD
 ·exact .inl ⟨rfl,rfl⟩
 ·exact .inl ⟨rfl,rfl⟩
 ·cases h
theorem mz{t:TypeId}{i:TI}(h:T t=some i):T.size t=i.size:=by simp[TE.size,h]
theorem D0(hT:bw P T)(hs:bR T n g0 w0 S g a w){o:Oper}{e:TypeId}(ho:o.op= .alloc e)(h:rT T S o.dst e K)(hd:∀e,o.dst=some e→e<n)(hn:Rest T n g0 w0 K next){Q:Exit→Act→World→Prop} :o.wp P a w next Q:=by
 unfold rT at h;split at h
 ·rename_i d i cE hi;split at h
  ·rename_i hb;obtain⟨ti,z,h1,h2,h3,h4,h5,h6,h7⟩:=hT.info e i hi;have cn:(execOp a.eval o).run P w= .ok (.value (.pointer (some ⟨w.heap.size,0,none⟩))) (w.alloc (.cells z.cells e)):=by
    simp[execOp,ho,Instr.alloc,zeroValue,typeInfo,h1,h5,newVar,newRow]
   refine cW cn ?_;obtain⟨hl,hk⟩:=bP h;obtain⟨g',gu,hp⟩:=hs.kb hb (.cells z.cells e) (Go.RowKit.frozen?_alloc_cells w _ _) (kb e i.zero) (fun g' hH hK hB oN hc=>by
    unfold kb;obtain⟨z1,z2⟩:=uH h7;have o7:iB T g' (w.alloc (.cells z.cells e)) (.own d) (.mix e i.zero):=
     ⟨by rw[hB];exact hK,by rw[hB,hH];simp,_,e,by rw[hB];exact F9 e w,by rw[h6,mz hi],by simpa using z1,fun j v x hv hx=>JI (z2 j v x hv (by rw[Array.getElem?_toList];exact hx))⟩
    split
    ·rename_i ps j4;cases WQ:(i.zero.all fun v=>match v with | .own _ _=>false | _=>true)with
     | true=>
      exact⟨by rw[hB];exact hK,by rw[hB,hH];simp,_,e,by rw[hB];exact F9 e w,by rw[h6,mz hi],pG h7 j4 g' _⟩
     | false=>exact o7
    ·exact o7)
   rw[cE];exact hn ((S.bK (.own d) (kb e i.zero)).put d (.ptr (.own d) 0)) _ _ _ hk (gu.put (hd d cE) hl (.of hp) (fun s sz rows e=>by cases e) (fun l e=>by cases e) (fun sz rows e=>by cases e) (fun s wt v' e=>by cases e))
  ·exact h.elim
 ·exact h.elim
theorem bR.BW(hs:bR T n g0 w0 S g a w){d:Nat}{l:Loc}{x:Value}(hd:d<n)(hl:S.lock d=false)(hp:aA g w (.ptr l 0) x):bR T n g0 w0 (S.put d (.ptr l 0)) g (a.put (some d) x) w:=
 hs.put hd hl (.of hp) (fun s sz rows e=>by cases e) (fun l e=>by cases e) (fun sz rows e=>by cases e) (fun s wt v' e=>by cases e)
theorem pL{sz:Nat}{rows:List (List PV)}{x:Value}(h:cK w g.H (.sl sz rows) x):x.cells= #[x]:=by cases h<;>rfl
theorem mA{v:AV}{x:Value}(h:cU g w v x){c:List PV}(hc:v.iQ=some c):x.cells.size=c.length:=by
 have:=(fm h hc).1;simp at this;omega
theorem aA.Tg{v:AV}{x:Value}(h:aA g w v x)(hv:(∀cs,v≠ .agg cs)∧(∀cs,v≠ .mix cs)∧v≠ .dead):x.cells= #[x]:=by
 cases h with
 | p h=>cases h<;>rfl
 | agg=>exact absurd rfl (hv.1 _)
 | mix=>exact absurd rfl (hv.2.1 _)
 | dead=>exact absurd rfl hv.2.2
 | _=>rfl
theorem uO{v:AV}{x:Value}(h:cU g w v x)(hp:v.iQ=none){cs:List AV}(hc:v.cells=some cs):cs.length=x.cells.size∧ ∀(j:Nat) u y,cs[j]? =some u→x.cells[j]? =some y→aA g w u y:=by
 have one:∀u,aA g w u x→(∀cs,u≠ .agg cs)∧(∀cs,u≠ .mix cs)∧u≠ .dead→cs= [u]→cs.length=x.cells.size∧ ∀(j:Nat) u y,cs[j]? =some u→x.cells[j]? =some y→aA g w u y:=by
  intro u hu dA e;subst e;rw[hu.Tg dA];refine⟨rfl,fun j agu y h1 h2=>?_⟩;cases j with
  | zero=>simp at h1 h2;subst h1;subst h2;exact hu
  | succ j=>simp at h1
 cases v with
 | p v=>cases hp
 | agg cs=>cases hp
 | own sz rows=>cases hp
 | cp q sz rows=>cases hp
 | mix ds=>
  cases hc;obtain⟨xs,rfl,h1,h2⟩:=aA.w8 h;exact⟨h1,h2⟩
 | dE vs=>cases hc
 | ro sz cs o=>cases hc
 | fS s wt v=>cases hc
 | xz vs=>cases hc
 | iX v=>cases hc
 | dead=>cases hc
 | ptr l o=>cases hc;exact one _ h ⟨by simp,by simp,by simp⟩ rfl
 | gm=>cases hc;exact one _ h ⟨by simp,by simp,by simp⟩ rfl
 | aP=>cases hc;exact one _ h ⟨by simp,by simp,by simp⟩ rfl
 | fD=>cases hc;exact one _ h ⟨by simp,by simp,by simp⟩ rfl
 | fn f a b=>cases hc;exact one _ h ⟨by simp,by simp,by simp⟩ rfl
 | dF l=>cases hc;exact one _ h ⟨by simp,by simp,by simp⟩ rfl
 | fI ag es=>cases hc;exact one _ h ⟨by simp,by simp,by simp⟩ rfl
 | _=>cases hc
theorem fk.of{l:Loc}{i:Nat}{v:AV}{x:Value}(h:aA g w v x):fk g w l i v x:=by
 cases h<;>(simp only[fk];constructor<;>assumption)
theorem HP{o:Oper}{e:TypeId}{x:Operand}(ho:o.op= .box e x):(execOp a.eval o).run P w= .ok (.value (.pointer (some ⟨w.heap.size,0,none⟩))) (w.alloc (.cells (a.eval x).cells e)):=by
 simp[execOp,ho,Instr.box,newVar,newRow]
theorem JK(hT:bw P T)(hs:bR T n g0 w0 S g a w){o:Oper}{e:TypeId}{x:Operand}(ho:o.op= .box e x)(h:wR T S o.dst e x (bO T S [] e x) K)(hd:∀e,o.dst=some e→e<n)(hn:Rest T n g0 w0 K next){Q:Exit→Act→World→Prop} :o.wp P a w next Q:=by
 refine cW (HP ho) ?_;have hU:=bN hT hs (c:= []) (by intro e he;cases he) e x;unfold wR at h;split at h
 ·rename_i d cE;split at h
  ·rename_i hb;rw[cE];split at h
   ·rename_i sz rows he;rw[he]at hU;cases dZ:T.ea e 1 with
    | false=>rw[dZ]at h;exact h.elim
    | true=>
     rw[dZ]at h;simp only[cond_true]at h;obtain⟨ie,fQ,Th⟩:=dT.1 dZ;have fO:(a.eval x).cells= #[a.eval x]:=pL hU;have fin:∀(S1:St) (g1:G),S1.bx=S.bx→S1.lock d=false→bR T n g0 w0 S1 g1 a w→dG g1 w (.cell (.own d) 0) sz rows (a.eval x)→K ((S1.put d (.ptr (.own d) 0)).bK (.own d) (.mix e [.own sz rows]))→
       next (a.put (some d) (.pointer (some ⟨w.heap.size,0,none⟩))) (w.alloc (.cells (a.eval x).cells e)):=by
      intro S1 g1 ri hl gY hO hk;obtain⟨g',gu,hp⟩:=gY.kb (d:=d) (by rw[ri];exact hb) (.cells (a.eval x).cells e) (Go.RowKit.frozen?_alloc_cells w _ _) (.mix e [.own sz rows]) (fun g' hH hK hB oN hc=>by
       refine⟨by rw[hB];exact hK,by rw[hB,hH];simp,_,e,by rw[hB];exact F9 e w,by rw[fO,mz fQ,Th];rfl,by rw[fO];rfl,fun j v y hv hy=>?_⟩;rw[fO]at hy;cases j with
       | zero=>
        simp at hv hy;subst hv;subst hy;exact hO.jq hc (fun x=>x)
       | succ j=>simp at hv)
      exact hn ((S1.bK (.own d) (.mix e [.own sz rows])).put d (.ptr (.own d) 0)) _ _ _ hk (gu.BW (hd d cE) hl hp)
     rcases tb (a:=a) he with⟨s,rfl,hg⟩ | ⟨dA,rfl,hx⟩
     ·simp only at h;obtain⟨hl,hk⟩:=bP h;obtain⟨mj,jJ⟩:=bP hk;have mM:aA g w (.p (.sl sz rows)) (a.eval (.tmp s)):= .p hU;have gY:=hs.weaken hl mM;have DY:=hs.bH s;rw[hg]at DY;obtain⟨g1,hc,hO,hH,vR⟩:=dG.hand (q':= .cell (.own d) 0) hs.fresh DY;have kf:bR T n g0 w0 (S.put s (.p (.sl sz rows))) g1 a w:=by
       refine gY.jq hc (by simp) (fun t ht=>?_) (fun l b hb hx=>?_) (fun t l _=>by simp) (fun k hk=>gY.live k (vR _ hk))
       ·injection ht with ht
        injection ht with ht
        subst ht;rw[St.di,if_pos rfl];exact .of (mM.ext hc.ge)
       ·rcases hx with hx | ⟨i,hx⟩
        ·cases hx
        ·injection hx with hx;cases hx
      exact fin (S.put s (.p (.sl sz rows))) g1 rfl mj kf hO jJ
     ·cases x with
      | tmp s=>exact absurd rfl (dA s)
      | _=>
       simp only at h;obtain⟨hl,hk⟩:=bP h;exact fin _ _ rfl hl hs (.inl ⟨rfl,hx⟩) hk
   ·rename_i v hv;split at h
    ·rename_i ps j4;cases dZ:T.ea e ps.length with
     | false=>rw[dZ]at h;exact h.elim
     | true=>
      rw[dZ]at h;simp only[cond_true]at h;obtain⟨ie,fQ,Th⟩:=dT.1 dZ;obtain⟨hl,hk⟩:=bP h;obtain⟨g',gu,hp⟩:=hs.kb hb (.cells (a.eval x).cells e) (Go.RowKit.frozen?_alloc_cells w _ _) (.pure e ps) (fun g' hH hK hB oN hc=>
       ⟨by rw[hB];exact hK,by rw[hB,hH];simp,_,e,by rw[hB];exact F9 e w,by rw[mA hU j4,mz fQ,Th],(fm hU j4).ext oN.ext⟩)
      exact hn ((S.bK (.own d) (.pure e ps)).put d (.ptr (.own d) 0)) _ _ _ hk (gu.BW (hd d cE) hl hp)
    ·rename_i Ti;split at h
     ·rename_i cs rX;cases dZ:(pr (.own d) cs&&T.ea e cs.length)with
      | false=>rw[dZ]at h;exact h.elim
      | true=>
       rw[dZ]at h;simp only[cond_true]at h;rw[Bool.and_eq_true]at dZ;obtain⟨ie,fQ,Th⟩:=dT.1 dZ.2;obtain⟨hl,hk⟩:=bP h;obtain⟨c1,c2⟩:=uO hU Ti rX;obtain⟨g',gu,hp⟩:=hs.kb hb (.cells (a.eval x).cells e) (Go.RowKit.frozen?_alloc_cells w _ _) (.mix e cs) (fun g' hH hK hB oN hc=>
        ⟨by rw[hB];exact hK,by rw[hB,hH];simp,_,e,by rw[hB];exact F9 e w,by rw[←c1,mz fQ,Th],c1,fun j v y hv hy=> .of ((c2 j v y hv hy).ext oN)⟩)
       exact hn ((S.bK (.own d) (.mix e cs)).put d (.ptr (.own d) 0)) _ _ _ hk (gu.BW (hd d cE) hl hp)
     ·exact h.elim
  ·exact h.elim
 ·exact h.elim
end
section
variable {P:Program} {T:TE} {n:Nat} {g0 g g':G} {w0 w w':World} {S:St} {a:Act} {ops:List Oper} {next:Act→World→Prop} {K:St→Prop} {X:BK→Prop}
theorem cK.xd{H:Nat→Nat}{v:PV}{x:Value}(h:cK w H v x):x.oneCell'=true:=by cases h<;>rfl
theorem LF{v:AV}{x:Value}(h:aA g w v x)(hv:Pr v=true):x.oneCell'=true:=by
 cases h with
 | p h=>exact h.xd
 | _=>first | rfl | cases hv
theorem Ga{m:Nat}{v:AV}(h:HI m v=true):Pr v=true:=by
 cases m with
 | zero=>cases h
 | succ m=>cases v<;>first | rfl | cases h
theorem D3{l:Loc}{cs:List AV}(h:pr l cs=true):∀v∈cs,Pr v=true:=by
 unfold pr at h;split at h
 ·exact fun v hv=>List.all_eq_true.1 h v hv
 ·exact fun v hv=>Ga (List.all_eq_true.1 h v hv)
structure vT(w:World)(b:Nat)(xs:Array Value)(t:TypeId)(w':World):Prop where
 os:w'.os=w.os
 tape:w'.tape=w.tape
 output:w'.output=w.output
 size:w'.heap.size=w.heap.size
 block:w'.heap[b]? =some (.cells xs t (0,0))
 other:∀c,c≠b→w'.heap[c]? =w.heap[c]?
 fz:∀a,w'.frozen? a=w.frozen? a
theorem zP{b:Nat}{xs:Array Value}{t:TypeId}(h:w.heap[b]? =some (.cells xs t (0,0)))(i:Nat)(v:Value):vT w b (xs.setIfInBounds i v) t (w.setCell ⟨b,i,none⟩ v) where
 os:=rfl
 tape:=rfl
 output:=rfl
 size:=World.size_setCell _ _ _
 block:=by
  simp only[World.setCell,Array.getElem?_modify,if_true,h,Option.map_some];rfl
 other c hc:=by
  simp only[World.setCell,Array.getElem?_modify];rw[if_neg (fun e=>hc e.symm)]
 fz a:=World.frozen?_setCell _ _ _ _
theorem pM{b:Nat}{t:TypeId}{o:Nat} :∀(vs:List Value) (i:Nat) (xs:Array Value) (w:World),w.heap[b]? =some (.cells xs t (0,0))→o+i+vs.length≤xs.size→(∀v∈vs,v.oneCell'=true)→
  ∃w',(storeCells ⟨b,o,none⟩ vs i).run P w= .ok () w'∧vT w b (cG xs.toList (o+i) vs).toArray t w':=by
 intro vs;induction vs with
 | nil=>
  intro i xs w hh _ _;refine⟨w,by simp[storeCells],rfl,rfl,rfl,rfl,?_,fun _ _=>rfl,fun _=>rfl⟩;have e:cG xs.toList (o+i) ([]:List Value)=xs.toList:=by
   apply List.ext_getElem?;intro j;rw[eV,if_neg (by simp;omega)]
  rw[e];exact hh
 | cons v vs ih=>
  intro i xs w hh hle h1;have aN:o+i<xs.size:=by simp at hle;omega
  have bU:w.cell? ⟨b,o+i,none⟩=some xs[o+i]:=by rw[bF hh];exact Array.getElem?_eq_getElem aN
  have lp:w.frozen? ⟨b,o+i,none⟩=false:=by simp[World.frozen?,hh]
  have hw:=zP hh (o+i) v;obtain⟨w',hr,Tj⟩:=ih (i+1) (xs.setIfInBounds (o+i) v) (w.setCell ⟨b,o+i,none⟩ v) hw.block (by simp at hle ⊢;omega) (fun u hu=>h1 u (by simp[hu]));refine⟨w',?_,Tj.os.trans hw.os,Tj.tape.trans hw.tape,Tj.output.trans hw.output,Tj.size.trans hw.size,?_,fun c hc=>(Tj.other c hc).trans (hw.other c hc),fun a=>(Tj.fz a).trans (hw.fz a)⟩
  ·simp only[storeCells,Sem.run_bind,Addr.add_eq];rw[run_store P w _ v .plain (h1 v (by simp)),bU];simp only[lp,Bool.false_eq_true,if_false,Result.andThen_ok];exact hr
  ·rw[Tj.block];congr 3;apply List.ext_getElem?;intro j;rw[eV,eV];simp only[Array.size_setIfInBounds,Array.toList_setIfInBounds,List.length_cons,List.length_set,Array.length_toList];by_cases hj:o+(i+1)≤j∧j<o+(i+1)+vs.length∧j<xs.size
   ·rw[if_pos hj,if_pos ⟨by omega,by omega,hj.2.2⟩];have e:j-(o+i)=(j-(o+(i+1)))+1:=by omega
    rw[e,List.getElem?_cons_succ]
   ·rw[if_neg hj];by_cases K8:j=o+i
    ·subst K8;rw[if_pos ⟨by omega,by omega,aN⟩];simp[aN]
    ·rw[if_neg (by omega),List.getElem?_set_ne (fun e=>K8 e.symm)]
theorem gN{l:Loc}{xs:Array Value}{t:TypeId}(hf:eW g w)(hK:g.K (g.B l)= .box l)(hH:g.H (g.B l)=0)(hw:vT w (g.B l) xs t w'):j8 (fun e=>e= .box l) g w g w' where
 os:=hw.os
 tape:=hw.tape
 output:=hw.output
 size:=by rw[hw.size];exact Nat.le_refl _
 same b hb hx:=⟨hw.other b (fun e=>hx (by rw[e];exact hK)),rfl,rfl⟩
 ge:=⟨⟨fun _=>Nat.le_refl _,fun b i hi=>by
  have dA:b≠g.B l:=fun e=>by rw[e,hH]at hi;omega
  exact World.cell?_of_block (w:=w) (a:=⟨b,i,none⟩) (hw.other b dA),fun b xs c h0 hm=>(hw.other b (fun e=>by rw[e,hH]at h0;omega)).trans hm⟩,fun age m5=>⟨rfl,m5⟩⟩
 fresh b hb:=hf b (by rw[←hw.size];exact hb)
 fz a _:=hw.fz a
theorem bR.wrote(hs:bR T n g0 w0 S g a w){l:Loc}{b:er}(hb:S.bx l=some b)(fE:S.aJ=false)(hH:g.H (g.B l)=0){xs:Array Value}{t:TypeId}(hw:vT w (g.B l) xs t w'){b':er}(mi:iB T g w' l b'):bR T n g0 w0 (S.bK l b') g a w':=by
 have hK:=(hs.boxes l b hb).gV;have hc:=gN hs.fresh hK hH hw;have Sf:∀t l,eu (S.get t)=some l→False:=by
  intro t l e;have:=(hs.aJ t l e).1;rw[fE]at this;cases this
 exact {
  defers:=hs.defers
  size:=hs.size
  bH:=fun t=>(hs.bH t).jq hc (by simp) (fun l he=>(Sf _ _ he).elim) (fun b hb=>(hs.fresh b hb).2)
  boxes:=fun m c hm=>by
   rw[St.cM]at hm;split at hm
   ·rename_i e;subst e;cases hm;exact mi
   ·rename_i dA;exact(hs.boxes m c hm).jq hc (fun e=>dA (by injection e with e;exact e.symm)) (fun _ e=>by cases e)
  fresh:=hc.fresh
  dc:=hs.dc
  aJ:=fun t l e=>(Sf _ _ e).elim
  dm:=hs.dm
  de:=hs.de
  live:=fun k hk=>by
   rw[St.cM];split
   ·exact⟨_,rfl⟩
   ·exact hs.live k hk
  frame:=hc.frame (by simp) hs.frame}
theorem jB(hT:bw P T){o:Oper}{t:TypeId}{x y:Operand}(ho:o.op= .store t x y){i:TI}(hi:T t=some i){b off:Nat}(hx:a.eval x= .pointer (some ⟨b,off,none⟩))(dZ:(a.eval y).cells.size=i.size){xs:Array Value}{agh:TypeId}
  (hh:w.heap[b]? =some (.cells xs agh (0,0))) (hle:off+i.size≤xs.size) (h1:∀v∈(a.eval y).cells.toList,v.oneCell'=true):
  ∃w',(execOp a.eval o).run P w= .ok .skip w'∧vT w b (cG xs.toList off (a.eval y).cells.toList).toArray agh w':=by
 obtain⟨w',hr,hw⟩:=pM (P:=P) (o:=off) (a.eval y).cells.toList 0 xs w hh (by simp;omega) h1;rw[Nat.add_zero]at hw;refine⟨w',?_,hw⟩;simp only[execOp,ho,hx,Instr.storeAt,Instr.sureAddr,storeVar,Sem.run_bind,Sem.run_pure,Result.andThen_ok,dp hT hi];rw[if_neg (by simp[dZ])];simp only[hr,Result.andThen_ok,Sem.run_pure]
theorem nK{v:AV}{x:Value}(h:cU g w v x){c:List PV}(hc:v.iQ=some c):∀u∈x.cells.toList,u.oneCell'=true:=by
 have hr:=fm h hc;intro u hu;obtain⟨j,hj,rfl⟩:=List.getElem_of_mem hu;have hx:x.cells.toList[j]? =some x.cells.toList[j]:=List.getElem?_eq_getElem hj;have Z7:c[j]? =some (c[j]'(by rw[hr.1];exact hj)):=List.getElem?_eq_getElem _;exact(hr.2 j _ _ Z7 hx).xd
theorem xU{l:Loc}{ty:TypeId}{cs:List AV}{xs:Array Value}{t:TypeId}(hK:g.K (g.B l)= .box l)(hH:g.H (g.B l)=0)(hh:w.heap[g.B l]? =some (.cells xs t (0,0)))(dZ:xs.size=T.size ty)(hl:cs.length=xs.size)
  (hr:∀(i:Nat) v x,cs[i]? =some v→xs[i]? =some x→fk g w l i v x):iB T g w l (.mix ty cs):=⟨hK,hH,xs,t,hh,dZ,hl,hr⟩
theorem tf(hT:bw P T)(hs:bR T n g0 w0 S g a w){o:Oper}{t ty:TypeId}{x y:Operand}(ho:o.op= .store t x y)(cE:o.dst=none){l:Loc}{off:Nat}{b:er}(hb:S.bx l=some b)(fE:S.aJ=false)
  (hx:a.eval x= .pointer (some ⟨g.B l,off,none⟩)) {xs:Array Value} {agh:TypeId} (hH:g.H (g.B l)=0) (hh:w.heap[g.B l]? =some (.cells xs agh (0,0))) (dZ:xs.size=T.size ty)
  {v:AV} {ns:List PV} (hv:cU g w v (a.eval y)) (oO:v.iQ=some ns) {rest:Option er} (h:nD T S t ty l off ns rest K)
  (WR:∀b' w',rest=some b'→vT w (g.B l) (cG xs.toList off (a.eval y).cells.toList).toArray agh w'→uG g w g w'→iB T g w' l b') (hn:Rest T n g0 w0 K next) {Q:Exit→Act→World→Prop} :o.wp P a w next Q:=by
 have hK:=(hs.boxes l b hb).gV;have jI:a.put o.dst undef=a:=by rw[cE];rfl
 have mh:=fm hv oO;have rX:=mA hv oO;unfold nD at h;cases hw:(T.ea t (T.size ty)&&Nat.beq off 0)with
 | true=>
  rw[hw]at h;simp only[cond_true]at h;rw[Bool.and_eq_true]at hw;obtain⟨i,hi,Tk⟩:=dT.1 hw.1;have h0:=beq_true.1 hw.2;subst h0;obtain⟨hl,hk⟩:=h;obtain⟨w',hr,iD⟩:=jB hT ho hi hx (by omega) hh (by omega) (nK hv oO);refine jO hr ?_;rw[jI];have oN:=(gN hs.fresh hK hH iD).ge;refine hn _ _ _ _ hk (hs.wrote hb fE hH iD ⟨hK,hH,_,agh,iD.block,?_,?_⟩)
  ·rw[List.size_toArray,aV,Array.length_toList];exact dZ
  ·have e:cG xs.toList 0 (a.eval y).cells.toList=(a.eval y).cells.toList:=by
    apply List.ext_getElem?;intro j;rw[eV];by_cases hj:j<xs.size
    ·rw[if_pos ⟨by omega,by simp;omega,by simpa using hj⟩];rfl
    ·rw[if_neg (by simp;omega),List.getElem?_eq_none (by simp;omega),List.getElem?_eq_none (by simp;omega)]
   simp only[List.toList_toArray];rw[e];exact mh.ext oN.ext
 | false=>
  rw[hw]at h;simp only[cond_false]at h;cases Tl:(T.ea t ns.length&&Nat.ble (off+ns.length) (T.size ty))with
  | false=>rw[Tl]at h;exact h.elim
  | true=>
   rw[Tl]at h;simp only[cond_true]at h;rw[Bool.and_eq_true]at Tl;obtain⟨i,hi,Tk⟩:=dT.1 Tl.1;have hle:=Nat.le_of_ble_eq_true Tl.2;split at h
   ·rename_i b';obtain⟨w',hr,iD⟩:=jB hT ho hi hx (by omega) hh (by omega) (nK hv oO);refine jO hr ?_;rw[jI];exact hn _ _ _ _ h (hs.wrote hb fE hH iD (WR b' w' rfl iD (gN hs.fresh hK hH iD).ge))
   ·exact h.elim
theorem tg{l:Loc}{cs ns:List AV}{xs ys:List Value}{off:Nat}(hr:∀(i:Nat) v x,cs[i]? =some v→xs[i]? =some x→fk g w l i v x)(hn:∀(j:Nat) v x,ns[j]? =some v→ys[j]? =some x→fk g w l (off+j) v x)
  (hl:cs.length=xs.length) (m5:ns.length=ys.length):∀(i:Nat) v x,(cG cs off ns)[i]? =some v→(cG xs off ys)[i]? =some x→fk g w l i v x:=by
 intro i v x hv hx;rw[eV]at hv hx;by_cases hc:off≤i∧i<off+ns.length∧i<cs.length
 ·rw[if_pos hc]at hv;rw[if_pos ⟨hc.1,by omega,by omega⟩]at hx;have:=hn _ v x hv hx
  rwa [show off+(i-off)=i by omega]at this
 ·rw[if_neg hc]at hv;rw[if_neg (by omega)]at hx;exact hr i v x hv hx
theorem fk.wrote{l:Loc}{i:Nat}{v:AV}{x:Value}(h:fk g w l i v x)(hc:j8 (fun e=>e= .box l) g w g w'):fk g w' l i v x:=h.jq hc (by simp)
theorem th(hT:bw P T)(hs:bR T n g0 w0 S g a w){o:Oper}{t ty:TypeId}{x y:Operand}(ho:o.op= .store t x y)(cE:o.dst=none){l:Loc}{off:Nat}{b:er}(hb:S.bx l=some b)(fE:S.aJ=false)
  (hx:a.eval x= .pointer (some ⟨g.B l,off,none⟩)) {xs:Array Value} {agh:TypeId} (hH:g.H (g.B l)=0) (hh:w.heap[g.B l]? =some (.cells xs agh (0,0))) (dZ:xs.size=T.size ty)
  {v:AV} {cs ns:List AV} (hv:cU g w v (a.eval y)) (Ti:v.iQ=none) (oO:v.cells=some ns) (hl:cs.length=xs.size) (hr:∀(i:Nat) v x,cs[i]? =some v→xs[i]? =some x→fk g w l i v x)
  (h:pw T S t ty l off cs ns K) (hn:Rest T n g0 w0 K next) {Q:Exit→Act→World→Prop} :o.wp P a w next Q:=by
 have hK:=(hs.boxes l b hb).gV;have jI:a.put o.dst undef=a:=by rw[cE];rfl
 obtain⟨c1,c2⟩:=uO hv Ti oO;unfold pw at h;cases hw:(pr l ns&&(T.ea t ns.length&&Nat.ble (off+ns.length) (T.size ty)))with
 | false=>rw[hw]at h;exact h.elim
 | true=>
  rw[hw]at h;simp only[cond_true]at h;rw[Bool.and_eq_true,Bool.and_eq_true]at hw;obtain⟨fw,hw1,Tl⟩:=hw;obtain⟨i,hi,Tk⟩:=dT.1 hw1;have hle:=Nat.le_of_ble_eq_true Tl;have h1:∀u∈(a.eval y).cells.toList,u.oneCell'=true:=by
   intro u hu;obtain⟨j,hj,rfl⟩:=List.getElem_of_mem hu;have DG:j<(a.eval y).cells.size:=by simpa using hj
   have jz:(a.eval y).cells[j]? =some (a.eval y).cells[j]:=Array.getElem?_eq_getElem DG;have Z7:ns[j]? =some (ns[j]'(by omega)):=List.getElem?_eq_getElem _;have:=LF (c2 j _ _ Z7 jz) (D3 fw _ (List.getElem_mem _));simpa using this
  obtain⟨w',LG,iD⟩:=jB hT ho hi hx (by omega) hh (by omega) h1;refine jO LG ?_;rw[jI];have hc:=gN hs.fresh hK hH iD;refine hn _ _ _ _ h (hs.wrote hb fE hH iD (xU hK hH iD.block ?_ ?_ ?_))
  ·rw[List.size_toArray,aV,Array.length_toList];exact dZ
  ·rw[List.size_toArray,aV,aV,Array.length_toList];exact hl
  ·intro i v x w7 jz;rw[List.getElem?_toArray]at jz;exact tg (fun i v x h1 h2=>(hr i v x h1 (by rw[←Array.getElem?_toList];exact h2)).wrote hc) (fun j v x h1 h2=> .of ((c2 j v x h1 (by rw[←Array.getElem?_toList];exact h2)).ext hc.ge)) (by simpa using hl) (by simpa using c1) i v x w7 jz
theorem pN(hT:bw P T)(hs:bR T n g0 w0 S g a w){o:Oper}{t ty:TypeId}{x y:Operand}(ho:o.op= .store t x y)(cE:o.dst=none){l:Loc}{off:Nat}{b:er}(hb:S.bx l=some b)(fE:S.aJ=false)
  (hx:a.eval x= .pointer (some ⟨g.B l,off,none⟩)) {xs:Array Value} {agh:TypeId} (hH:g.H (g.B l)=0) (hh:w.heap[g.B l]? =some (.cells xs agh (0,0))) (dZ:xs.size=T.size ty)
  {Zd:TypeId} {sz:Nat} {rows:List (List PV)} (he:bO T S [] Zd y= .own sz rows) {cs:List AV} (hl:cs.length=xs.size) (hr:∀(i:Nat) v x,cs[i]? =some v→xs[i]? =some x→fk g w l i v x)
  (h:jL T S t ty l cs off y sz rows K) (hn:Rest T n g0 w0 K next) {Q:Exit→Act→World→Prop} :o.wp P a w next Q:=by
 have jI:a.put o.dst undef=a:=by rw[cE];rfl
 have hU:cU g w (.own sz rows) (a.eval y):=by
  have:=bN hT hs (c:= []) (by intro e he;cases he) Zd y
  rwa [he]at this
 unfold jL at h;cases hw:(Nat.ble (off+1) (T.size ty)&&T.ea t 1)with
 | false=>rw[hw]at h;exact h.elim
 | true=>
  rw[hw]at h;simp only[cond_true]at h;rw[Bool.and_eq_true]at hw;obtain⟨i,hi,Tk⟩:=dT.1 hw.2;have hle:=Nat.le_of_ble_eq_true hw.1;have fO:(a.eval y).cells= #[a.eval y]:=pL hU;have fin:∀(S1:St) (g1:G),S1.bx=S.bx→S1.aJ=false→g1.B=g.B→g1.H=g.H→bR T n g0 w0 S1 g1 a w→(∀(i:Nat) v x,cs[i]? =some v→xs[i]? =some x→fk g1 w l i v x)→dG g1 w (.cell l off) sz rows (a.eval y)→
    K (S1.bK l (.mix ty (cG cs off [.own sz rows])))→o.wp P a w next Q:=by
   intro S1 g1 e1 e2 e3 e4 gY zG hO hk;have tj:S1.bx l=some b:=by rw[e1];exact hb
   have Z8:=(gY.boxes l b tj).gV;obtain⟨w',LG,iD⟩:=jB hT ho hi hx (by rw[fO];simp;omega) hh (by omega) (by
    rw[fO];intro u hu;simp at hu;subst hu;exact cK.xd hU)
   refine jO LG ?_;rw[jI];rw[←e3]at iD hH;have LH:g1.H (g1.B l)=0:=by rw[e4];exact hH
   have hc:=gN gY.fresh (gY.boxes l b tj).gV LH iD;refine hn _ _ _ _ hk (gY.wrote tj e2 LH iD (xU (gY.boxes l b tj).gV LH iD.block ?_ ?_ ?_))
   ·rw[List.size_toArray,aV,Array.length_toList];exact dZ
   ·rw[List.size_toArray,aV,aV,Array.length_toList];exact hl
   ·intro i v x w7 jz;rw[List.getElem?_toArray]at jz;refine tg (fun i v x h1 h2=>(zG i v x h1 (by rw[←Array.getElem?_toList];exact h2)).wrote hc) (fun j v x h1 h2=>?_) (by simpa using hl) (by rw[fO];rfl) i v x w7 jz;rw[fO]at h2;cases j with
    | zero=>
     simp at h1 h2;subst h1;subst h2;exact hO.jq hc (by simp)
    | succ j=>simp at h1
  rcases tb (a:=a) he with⟨s,rfl,hg⟩ | ⟨dA,rfl,K9⟩
  ·simp only at h;obtain⟨D4,hk⟩:=bP h;have mM:aA g w (.p (.sl sz rows)) (a.eval (.tmp s)):= .p hU;have gY:=hs.weaken D4 mM;have DY:=hs.bH s;rw[hg]at DY;have WS:dG g w (.slot s) sz rows (a.tmps.getD s undef):=DY;rcases WS with⟨r1,r2⟩ | WT
   ·exact fin (S.put s (.p (.sl sz rows))) g rfl fE rfl rfl gY hr (.inl ⟨r1,r2⟩) hk
   ·obtain⟨b2,cap,cur,e,ex,iE,oL,hm,JL,tk,hC,WU,WV⟩:=WT;have hc:=pK (k:= .cw (.cell l off)) hs.fresh (bJ iE) WV;have kf:bR T n g0 w0 (S.put s (.p (.sl sz rows))) (g.DX b2 (.cw (.cell l off))) a w:=by
     refine gY.jq hc (by simp) (fun t ht=>?_) (fun l b hb hx=>?_) (fun t l _=>by simp) (fun k hk=>?_)
     ·injection ht with ht
      injection ht with ht
      subst ht;rw[St.di,if_pos rfl];exact .of (mM.ext hc.ge)
     ·rcases hx with hx | ⟨i,hx⟩
      ·cases hx
      ·injection hx with hx;cases hx
     ·have hk:(if g.B (.own k)=b2 then BK.cw (.cell l off)else g.K (g.B (.own k)))= .box (.own k):=hk;split at hk
      ·cases hk
      ·exact gY.live k hk
    refine fin (S.put s (.p (.sl sz rows))) (g.DX b2 (.cw (.cell l off))) rfl fE rfl rfl kf (fun i v x h1 h2=>(hr i v x h1 h2).jq hc (by simp)) ?_ hk;refine .inr ⟨b2,cap,cur,e,ex,iE,oL,hm,JL,tk,hC,WU,?_⟩;show(if b2=b2 then BK.cw (.cell l off)else g.K b2)=_;rw[if_pos rfl]
  ·cases y with
   | tmp s=>exact absurd rfl (dA s)
   | _=>
    simp only at h;exact fin S g rfl fE rfl rfl hs hr (.inl ⟨rfl,K9⟩) h
theorem Tm{ty:TypeId}{x:Operand}{sz:Nat}{rows:List (List PV)}(h:bO T S [] ty x= .mo sz rows):∃s,x= .tmp s∧S.get s= .mo sz rows:=by
 cases x with
 | tmp s=>
  refine⟨s,rfl,?_⟩;have h:under [] (S.get s)= .mo sz rows:=h;unfold under at h;split at h
  ·cases h
  ·exact h
 | const v=>
  have h:fU T ty v= .mo sz rows:=h;unfold fU at h;split at h<;>first | cases h | skip
  split at h<;>cases h
 | func f=>cases h
 | global _=>cases h
theorem fZ.one{q:Place}{sz:Nat}{rows:List (List PV)}{x:Value}(h:fZ g w q sz rows x):x.cells= #[x]∧x.oneCell'=true:=by
 rcases h with⟨_,rfl⟩ | ⟨b,cap,cur,e,rfl,_⟩<;>exact⟨rfl,rfl⟩
theorem ru(hT:bw P T)(hs:bR T n g0 w0 S g a w){o:Oper}{t ty:TypeId}{x y:Operand}(ho:o.op= .store t x y)(cE:o.dst=none){l:Loc}{off:Nat}{b:er}(hb:S.bx l=some b)(fE:S.aJ=false)
  (hx:a.eval x= .pointer (some ⟨g.B l,off,none⟩)) {xs:Array Value} {agh:TypeId} (hH:g.H (g.B l)=0) (hh:w.heap[g.B l]? =some (.cells xs agh (0,0))) (dZ:xs.size=T.size ty)
  {Zd:TypeId} {sz:Nat} {rows:List (List PV)} (he:bO T S [] Zd y= .mo sz rows) {cs:List AV} (hl:cs.length=xs.size) (hr:∀(i:Nat) v x,cs[i]? =some v→xs[i]? =some x→fk g w l i v x)
  (h:mq T S t ty l cs off y sz rows K) (hn:Rest T n g0 w0 K next) {Q:Exit→Act→World→Prop} :o.wp P a w next Q:=by
 have jI:a.put o.dst undef=a:=by rw[cE];rfl
 obtain⟨s,rfl,hg⟩:=Tm he;have DY:=hs.bH s;rw[hg]at DY;have WS:fZ g w (.slot s) sz rows (a.tmps.getD s undef):=DY;unfold mq at h;cases hw:(Nat.ble (off+1) (T.size ty)&&T.ea t 1)with
 | false=>rw[hw]at h;exact h.elim
 | true=>
  rw[hw]at h;simp only[cond_true]at h;rw[Bool.and_eq_true]at hw;obtain⟨i,hi,Tk⟩:=dT.1 hw.2;have hle:=Nat.le_of_ble_eq_true hw.1;have fO:(a.eval (.tmp s)).cells= #[a.eval (.tmp s)]:=WS.one.1;have fin:∀(S1:St) (g1:G),S1.bx=S.bx→S1.aJ=false→g1.B=g.B→g1.H=g.H→bR T n g0 w0 S1 g1 a w→(∀(i:Nat) v x,cs[i]? =some v→xs[i]? =some x→fk g1 w l i v x)→fZ g1 w (.cell l off) sz rows (a.eval (.tmp s))→
    K (S1.bK l (.mix ty (cG cs off [.mo sz rows])))→o.wp P a w next Q:=by
   intro S1 g1 e1 e2 e3 e4 gY zG hO hk;have tj:S1.bx l=some b:=by rw[e1];exact hb
   have Z8:=(gY.boxes l b tj).gV;obtain⟨w',LG,iD⟩:=jB hT ho hi hx (by rw[fO];simp;omega) hh (by omega) (by
    rw[fO];intro u hu;simp at hu;subst hu;exact WS.one.2)
   refine jO LG ?_;rw[jI];rw[←e3]at iD hH;have LH:g1.H (g1.B l)=0:=by rw[e4];exact hH
   have hc:=gN gY.fresh (gY.boxes l b tj).gV LH iD;refine hn _ _ _ _ hk (gY.wrote tj e2 LH iD (xU (gY.boxes l b tj).gV LH iD.block ?_ ?_ ?_))
   ·rw[List.size_toArray,aV,Array.length_toList];exact dZ
   ·rw[List.size_toArray,aV,aV,Array.length_toList];exact hl
   ·intro i v x w7 jz;rw[List.getElem?_toArray]at jz;refine tg (fun i v x h1 h2=>(zG i v x h1 (by rw[←Array.getElem?_toList];exact h2)).wrote hc) (fun j v x h1 h2=>?_) (by simpa using hl) (by rw[fO];rfl) i v x w7 jz;rw[fO]at h2;cases j with
    | zero=>
     simp at h1 h2;subst h1;subst h2;exact hO.jq hc (by simp)
    | succ j=>simp at h1
  obtain⟨D4,hk⟩:=bP h;have gY:=hs.weaken D4 (.dead _);rcases WS with⟨r1,r2⟩ | WT
  ·exact fin (S.put s .dead) g rfl fE rfl rfl gY hr (.inl ⟨r1,r2⟩) hk
  ·obtain⟨b2,cap,cur,e,ex,iE,oL,hm,JL,tk,hC,WU,WV⟩:=WT;have hc:=pK (k:= .cw (.cell l off)) hs.fresh (bJ iE) WV;have kf:bR T n g0 w0 (S.put s .dead) (g.DX b2 (.cw (.cell l off))) a w:=by
    refine gY.jq hc (by simp) (fun t ht=>?_) (fun l b hb hx=>?_) (fun t l _=>by simp) (fun k hk=>?_)
    ·injection ht with ht
     injection ht with ht
     subst ht;rw[St.di,if_pos rfl];exact .of (.dead _)
    ·rcases hx with hx | ⟨i,hx⟩
     ·cases hx
     ·injection hx with hx;cases hx
    ·have hk:(if g.B (.own k)=b2 then BK.cw (.cell l off)else g.K (g.B (.own k)))= .box (.own k):=hk;split at hk
     ·cases hk
     ·exact gY.live k hk
   refine fin (S.put s .dead) (g.DX b2 (.cw (.cell l off))) rfl fE rfl rfl kf (fun i v x h1 h2=>(hr i v x h1 h2).jq hc (by simp)) ?_ hk;refine .inr ⟨b2,cap,cur,e,ex,iE,oL,hm,JL,tk,hC,WU,?_⟩;show(if b2=b2 then BK.cw (.cell l off)else g.K b2)=_;rw[if_pos rfl]
theorem Ap{l:Loc}{cs:List PV}{xs:List Value}(h:dg w g.H cs xs):(cs.map AV.p).length=xs.length∧ ∀(i:Nat) v x,(cs.map AV.p)[i]? =some v→xs[i]? =some x→fk g w l i v x:=by
 refine⟨by rw[List.length_map];exact h.1,fun i v x hv hx=>?_⟩;rw[List.getElem?_map,Option.map_eq_some_iff]at hv;obtain⟨c,hc,rfl⟩:=hv;exact aA.p (h.2 i c x hc hx)
theorem D5(hT:bw P T)(hs:bR T n g0 w0 S g a w){o:Oper}{t:TypeId}{x y:Operand}(ho:o.op= .store t x y)(cE:o.dst=none)(h:gO T S t (bO T S [] 0 x) y (bO T S [] t y) K)(hn:Rest T n g0 w0 K next){Q:Exit→Act→World→Prop} :o.wp P a w next Q:=by
 have hX:=bN hT hs (c:= []) (by intro e he;cases he) 0 x;have hY:=bN hT hs (c:= []) (by intro e he;cases he) t y;unfold gO at h;cases fE:S.aJ with
 | true=>rw[fE]at h;exact h.elim
 | false=>
  rw[fE]at h;simp only[cond_false]at h;split at h
  ·rename_i l off dq;rw[dq]at hX;obtain⟨ex,hK⟩:=jm hX;split at h
   ·rename_i ty cs hb;obtain⟨_,hH,xs,agh,hh,dZ,xa⟩:=hs.boxes l _ hb;obtain⟨m1,m2⟩:=Ap (l:=l) xa;split at h
    ·rename_i sz rows he;exact pN hT hs ho cE hb fE ex hH hh dZ he (by simpa using m1) (fun i v x h1 h2=>m2 i v x h1 (by rw[Array.getElem?_toList];exact h2)) h hn
    ·rename_i sz rows he;exact ru hT hs ho cE hb fE ex hH hh dZ he (by simpa using m1) (fun i v x h1 h2=>m2 i v x h1 (by rw[Array.getElem?_toList];exact h2)) h hn
    ·rename_i v Zc WN;split at h
     ·rename_i ns oO;refine tf hT hs ho cE hb fE ex hH hh dZ hY oO h (fun b' w' mi iD oN=>?_) hn;cases mi;refine⟨hK,hH,_,agh,iD.block,?_,?_⟩
      ·rw[List.size_toArray,aV,Array.length_toList];exact dZ
      ·simp only[List.toList_toArray];exact(xa.put (fm hY oO) off).ext oN.ext
     ·rename_i Ti;split at h
      ·rename_i ns oO;exact th hT hs ho cE hb fE ex hH hh dZ hY Ti oO (by simpa using m1) (fun i v x h1 h2=>m2 i v x h1 (by rw[Array.getElem?_toList];exact h2)) h hn
      ·exact h.elim
   ·rename_i ty cs hb;obtain⟨_,hH,xs,agh,hh,dZ,hl,xa⟩:=hs.boxes l _ hb;split at h
    ·rename_i sz rows he;exact pN hT hs ho cE hb fE ex hH hh dZ he hl xa h hn
    ·rename_i sz rows he;exact ru hT hs ho cE hb fE ex hH hh dZ he hl xa h hn
    ·rename_i v Zc WN;split at h
     ·rename_i ns oO;refine tf hT hs ho cE hb fE ex hH hh dZ hY oO h (fun b' w' mi iD oN=>?_) hn;cases mi;have hc:=gN hs.fresh hK hH iD;have Pc:=fm hY oO;obtain⟨m1,m2⟩:=Ap (l:=l) Pc;refine xU hK hH iD.block ?_ ?_ ?_
      ·rw[List.size_toArray,aV,Array.length_toList];exact dZ
      ·rw[List.size_toArray,aV,aV,Array.length_toList];exact hl
      ·intro i v x w7 jz;rw[List.getElem?_toArray]at jz;refine tg (fun i v x h1 h2=>(xa i v x h1 (by rw[←Array.getElem?_toList];exact h2)).wrote hc) (fun j v x h1 h2=>?_) (by simpa using hl) m1 i v x w7 jz;rw[List.getElem?_map,Option.map_eq_some_iff]at h1;obtain⟨c,FD,rfl⟩:=h1;exact aA.p ((Pc.2 j c x FD h2).ext oN.ext)
     ·rename_i Ti;split at h
      ·rename_i ns oO;exact th hT hs ho cE hb fE ex hH hh dZ hY Ti oO hl xa h hn
      ·exact h.elim
   ·exact h.elim
  ·exact h.elim
end
section
variable {P:Program} {T:TE} {n:Nat} {g0 g g':G} {w0 w w':World} {S:St} {a:Act} {ops:List Oper} {next:Act→World→Prop} {K:St→Prop} {X:BK→Prop}
theorem cK.list{sz:Nat}{xs:List (List PV)}{x:Value}(h:cK w g.H (.sl sz xs) x):(∃A c,(A=none→c=0)∧x= .slice A 0 c∧xs= [])∨
  ∃b o c news,x= .slice (some ⟨b,o,none⟩) xs.length c∧news.length=xs.length*sz∧(∀(j:Nat) u,news[j]? =some u→w.cell? ((⟨b,o,none⟩:Addr).add j)=some u)∧(∀u∈news,u.oneCell'=true)∧dg w g.H xs.flatten news∧ ∀r∈xs,r.length=sz:=by
 cases h with
 | nil _ A c h=>exact .inl ⟨A,c,h,rfl,rfl⟩
 | @sl _ _ b o cap vs hc hr hH bU hv=>
  have JC:=cd hr;have wT:∀(j:Nat) u,((List.range (xs.length*sz)).map vs)[j]? =some u→j<xs.length*sz∧u=vs j:=by
   intro j u hj;rw[List.getElem?_map,Option.map_eq_some_iff]at hj;obtain⟨q,hq,rfl⟩:=hj;have aN:j<xs.length*sz:=by have:=(List.getElem?_eq_some_iff.1 hq).1;simpa using this
   rw[List.getElem?_range aN]at hq;cases hq;exact⟨aN,rfl⟩
  refine .inr ⟨b,o,cap,(List.range (xs.length*sz)).map vs,rfl,by simp,fun j u hj=>?_,fun u hu=>?_,⟨by simp[JC],fun j u y hu hy=>?_⟩,hr⟩
  ·obtain⟨aN,rfl⟩:=wT j u hj;rw[Addr.add_eq];exact bU j _ (List.getElem?_eq_getElem (by rw[JC];exact aN))
  ·obtain⟨j,hj,rfl⟩:=List.getElem_of_mem hu;obtain⟨aN,he⟩:=wT j _ (List.getElem?_eq_getElem hj);rw[he];exact(hv j _ (List.getElem?_eq_getElem (by rw[JC];exact aN))).xd
  ·obtain⟨aN,rfl⟩:=wT j y hy;exact hv j u hu
theorem D6(hT:bw P T){t ty e:TypeId}{ie:TI}(oM:T.elem t=some e)(fQ:T e=some ie){v:Value}(hv:v= .slice none 0 0∨ ∃ad m c,v= .slice (some ad) m c∧m≤c){A:Option Addr}{agp:Nat}(hA:A=none→agp=0):(Builtin.append_ #[t,t] ty #[v,.slice A 0 agp]).run P w= .ok v w:=by
 have hu:P.underlying t=some (.slice e):=by
  unfold TE.elem at oM;split at oM
  ·rename_i hh;cases oM;exact ga hT hh
  ·cases oM
 obtain⟨ti,z,k1,k2,k3,k4,k5,k6,k7⟩:=hT.info e ie fQ;rcases hv with rfl | ⟨ad,m,c,rfl,hmc⟩
 ·cases A with
  | none=>rw[hA rfl];simp[Builtin.append_,bl hu,sizeOf,typeInfo,k1,Builtin.lenOf,Builtin.firstCells]
  | some ad=>simp[Builtin.append_,bl hu,sizeOf,typeInfo,k1,Builtin.lenOf,Builtin.firstCells,loadCells,loadCellsFrom]
 ·cases A with
  | none=>rw[hA rfl];simp[Builtin.append_,bl hu,sizeOf,typeInfo,k1,Builtin.lenOf,Builtin.firstCells,hmc,storeCells]
  | some ad=>simp[Builtin.append_,bl hu,sizeOf,typeInfo,k1,Builtin.lenOf,Builtin.firstCells,hmc,storeCells,loadCells,loadCellsFrom]
theorem dg.append{H:Nat→Nat}{cs ds:List PV}{xs ys:List Value}(h:dg w H cs xs)(k:dg w H ds ys):dg w H (cs++ds) (xs++ys):=by
 refine⟨by rw[List.length_append,List.length_append,h.1,k.1],fun j u y hu hy=>?_⟩;by_cases hj:j<cs.length
 ·rw[List.getElem?_append_left hj]at hu;rw[List.getElem?_append_left (by have:=h.1;omega)]at hy;exact h.2 _ _ _ hu hy
 ·rw[List.getElem?_append_right (by omega)]at hu;rw[List.getElem?_append_right (by have:=h.1;omega),←h.1]at hy;exact k.2 _ _ _ hu hy
def OR(f:Nat→Nat)(g:G)(w:World)(q:Place)(sz:Nat)(rows:List (List PV))(x:Value):Prop:=
 (rows= []∧x= .slice none 0 0)∨
 ∃b cap cur e,x= .slice (some ⟨b,0,none⟩) rows.length cap∧w.heap[b]? =some (.cells cur e (0,0))∧rows.length≤cap∧cap≤maxLen∧cur.size=cap*sz∧
  (∀r∈rows,r.length=sz)∧dg w g.H rows.flatten (cur.toList.take (rows.length*sz))∧g.H b=f rows.length∧g.K b= .cw q
theorem OR.hand{f:Nat→Nat}{q q':Place}{sz:Nat}{rows:List (List PV)}{x:Value}(hf:eW g w)(h:OR f g w q sz rows x):
  ∃g',j8 (fun e=>e= .cw q) g w g' w∧OR f g' w q' sz rows x∧g'.H=g.H∧ ∀l,g'.K (g'.B l)= .box l→g.K (g.B l)= .box l:=by
 rcases h with⟨h1,h2⟩ | ⟨b,cap,cur,e,rfl,hb,hc,hm,hs,hr,hC,hH,hK⟩
 ·refine⟨g,⟨rfl,rfl,rfl,Nat.le_refl _,fun b hb _=>⟨rfl,rfl,rfl⟩,.refl _ _,hf,fun _ _=>rfl⟩,.inl ⟨h1,h2⟩,rfl,fun _ h=>h⟩
 ·refine⟨g.DX b (.cw q'),pK hf (bJ hb) hK,.inr ⟨b,cap,cur,e,rfl,hb,hc,hm,hs,hr,hC,hH,?_⟩,rfl,fun l hl=>?_⟩
  ·show(if b=b then BK.cw q' else g.K b)= .cw q';rw[if_pos rfl]
  ·have hl:(if g.B l=b then BK.cw q' else g.K (g.B l))= .box l:=hl;split at hl
   ·cases hl
   ·exact hl
theorem tl{f:Nat→Nat}(hT:bw P T){t ty e:TypeId}{ie:TI}(oM:T.elem t=some e)(fQ:T e=some ie)(tj:1≤ie.bytes)(hf:eW g w){q q':Place}{rows xs:List (List PV)}{v x:Value}
  (Z9:∀m,f m≤m*ie.size) (hfm:∀m k,m≤k→f m≤f k) (h:OR f g w q ie.size rows v) (hx:cK w g.H (.sl ie.size xs) x) (hle:(rows.length+xs.length)*ie.bytes≤140737488355328):
  ∃y w' g',(Builtin.append_ #[t,t] ty #[v,x]).run P w= .ok y w'∧j8 (fun k=>k= .cw q) g w g' w'∧OR f g' w' q' ie.size (rows++xs) y∧ ∀l,g'.K (g'.B l)= .box l→g.K (g.B l)= .box l:=by
 have hu:P.underlying t=some (.slice e):=by
  unfold TE.elem at oM;split at oM
  ·rename_i hh;cases oM;exact ga hT hh
  ·cases oM
 obtain⟨ti,z,k1,k2,k3,k4,k5,k6,k7⟩:=hT.info e ie fQ;have adz:rows.length+xs.length≤140737488355328:=Nat.le_trans (Nat.le_mul_of_pos_right _ tj) hle;have WW:rows.length+xs.length≤maxLen:=by unfold maxLen;omega
 rcases hx.list with⟨agy,agp,dH,rfl,rfl⟩ | ⟨b,o,c,news,rfl,hl,LI,h1,hC,hxr⟩
 ·
  obtain⟨g',hc,hO,hH,vR⟩:=OR.hand (q':=q') hf h;refine⟨v,w,g',D6 hT oM fQ ?_ dH,hc,by rw[List.append_nil];exact hO,vR⟩;rcases h with⟨_,rfl⟩ | ⟨b,cap,cur,agm,rfl,_,oL,_⟩
  ·exact .inl rfl
  ·exact .inr ⟨_,_,_,rfl,oL⟩
 ·
  have made:∀(sN:Nat) (rs:List Value),dg w g.H rows.flatten rs→rs.length=rows.length*ie.size→(∀r∈rows,r.length=ie.size)→ ∀(g1:G),g1.H=g.H→j8 (fun k=>k= .cw q) g w g1 w→(∀l,g1.K (g1.B l)= .box l→g.K (g.B l)= .box l)→
    ∃g',j8 (fun k=>k= .cw q) g w g' (w.drew.alloc (.cells (rs.toArray++news.toArray++Builtin.zeroCells z.cells (grownCap w (rows.length+xs.length) sN e-(rows.length+xs.length))) e))∧
     OR f g' (w.drew.alloc (.cells (rs.toArray++news.toArray++Builtin.zeroCells z.cells (grownCap w (rows.length+xs.length) sN e-(rows.length+xs.length))) e)) q' ie.size (rows++xs) (.slice (some ⟨w.heap.size,0,none⟩) (rows.length+xs.length) (grownCap w (rows.length+xs.length) sN e))∧
     ∀l,g'.K (g'.B l)= .box l→g.K (g.B l)= .box l:=by
   intro sN rs Ze FC tk g1 LH r7 aaa;have oN:=grownCap_ge w (rows.length+xs.length) sN e;have Aq:=grownCap_le_maxLen w (rows.length+xs.length) sN e WW;have hd:j8 (fun _=>False) g1 w g1 w.drew:=⟨rfl,rfl,rfl,Nat.le_refl _,fun _ _ _=>⟨rfl,rfl,rfl⟩,⟨⟨fun _=>Nat.le_refl _,fun _ _ _=>rfl,fun _ _ _ _ h=>h⟩,fun _ h=>⟨rfl,h⟩⟩,r7.fresh,fun _ _=>rfl⟩;have hn:=qD (w:=w.drew) hd.fresh (.cells (rs.toArray++news.toArray++Builtin.zeroCells z.cells (grownCap w (rows.length+xs.length) sN e-(rows.length+xs.length))) e) (Go.RowKit.frozen?_alloc_cells w.drew _ _) (f (rows.length+xs.length)) (.cw q') g1.B (fun _ _=>rfl);have LJ:j8 (fun _=>False) g1 w (g1.new w.heap.size (f (rows.length+xs.length)) (.cw q') g1.B) (w.drew.alloc (.cells (rs.toArray++news.toArray++Builtin.zeroCells z.cells (grownCap w (rows.length+xs.length) sN e-(rows.length+xs.length))) e)):=
    ⟨hn.os,hn.tape,hn.output,hn.size,hn.same,⟨⟨hn.ge.ext.le,hn.ge.ext.cell,hn.ge.ext.ob⟩,hn.ge.box⟩,hn.fresh,hn.fz⟩
   refine⟨g1.new w.heap.size (f (rows.length+xs.length)) (.cw q') g1.B,⟨LJ.os.trans r7.os,LJ.tape.trans r7.tape,LJ.output.trans r7.output,Nat.le_trans r7.size LJ.size,fun b hb hx=>?_,r7.ge.trans LJ.ge,LJ.fresh,fun a ha=>(LJ.fz a (Nat.lt_of_lt_of_le ha r7.size)).trans (r7.fz a ha)⟩,.inr ⟨w.heap.size,_,_,e,by rw[List.length_append],jc w.drew _,by rw[List.length_append];exact oN,Aq,?_,?_,?_,?_,?_⟩,fun l hl=>aaa l (lS (w:=w.drew) hd.fresh (by simp) l hl)⟩
   ·obtain⟨a1,a2,a3⟩:=r7.same b hb hx;obtain⟨b1,b2,b3⟩:=LJ.same b (Nat.lt_of_lt_of_le hb r7.size) (fun x=>x);exact⟨b1.trans a1,b2.trans a2,b3.trans a3⟩
   ·simp only[Array.size_append,List.size_toArray,size_zeroCells,k6,FC,hl,←Nat.add_mul];congr 1;omega
   ·intro r hr;rcases List.mem_append.1 hr with hr | hr
    ·exact tk r hr
    ·exact hxr r hr
   ·have e1:((rs.toArray++news.toArray++Builtin.zeroCells z.cells (grownCap w (rows.length+xs.length) sN e-(rows.length+xs.length))).toList.take ((rows++xs).length*ie.size))=rs++news:=by
     simp only[Array.toList_append,List.append_assoc];rw[←List.append_assoc,List.length_append,Nat.add_mul,←FC,←hl,←List.length_append];exact List.take_left
    rw[e1,List.flatten_append];exact(Ze.append hC).ext (r7.ge.trans LJ.ge).ext
   ·simp[G.new]
   ·simp[G.new]
  rcases h with⟨rfl,rfl⟩ | ⟨b2,cap,cur,agm,rfl,iE,oL,hm,hs,hr,hC2,hH,hK⟩
  ·by_cases hm0:xs.length=0
   ·have La:xs= []:=List.eq_nil_of_length_eq_zero hm0;subst La;refine⟨.slice none 0 0,w,g,?_,⟨rfl,rfl,rfl,Nat.le_refl _,fun _ _ _=>⟨rfl,rfl,rfl⟩,.refl _ _,hf,fun _ _=>rfl⟩,.inl ⟨rfl,rfl⟩,fun _ h=>h⟩;simp[Builtin.append_,bl hu,sizeOf,typeInfo,k1,Builtin.lenOf,Builtin.firstCells,loadCells,loadCellsFrom]
   ·have cn:=run_append_nil (P:=P) w t ty e ti z hu k1 k5 ⟨b,o,none⟩ xs.length c news (by rw[k2];exact hl) LI (by omega) (by omega) (by rw[k3];simp at hle;omega);obtain⟨g',q1,q2,q3⟩:=made 0 [] ⟨rfl,by simp⟩ (by simp) (by simp) g rfl ⟨rfl,rfl,rfl,Nat.le_refl _,fun _ _ _=>⟨rfl,rfl,rfl⟩,.refl _ _,hf,fun _ _=>rfl⟩ (fun _ h=>h);have e0:([]:List Value).toArray++news.toArray=news.toArray:=by simp
    rw[e0]at q1 q2;simp only[List.length_nil,Nat.zero_add]at q1 q2;exact⟨_,_,g',cn,q1,q2,q3⟩
  ·by_cases LK:rows.length+xs.length≤cap
   ·have adA:rows.length*ie.size+news.length≤cur.size:=by rw[hl,hs,←Nat.add_mul];exact Nat.mul_le_mul_right _ LK
    have hfc:=run_firstCells_some (P:=P) w ti.size xs.length ⟨b,o,none⟩ xs.length c news (by rw[k2];exact hl) LI;obtain⟨w',j3,iD⟩:=pM (P:=P) (b:=b2) (o:=rows.length*ti.size) news 0 cur w iE (by rw[k2];omega) h1;rw[Nat.add_zero,k2]at iD;have cn:(Builtin.append_ #[t,t] ty #[.slice (some ⟨b2,0,none⟩) rows.length cap,.slice (some ⟨b,o,none⟩) xs.length c]).run P w= .ok (.slice (some ⟨b2,0,none⟩) (rows.length+xs.length) cap) w':=by
     simp[Builtin.append_,bl hu,sizeOf,typeInfo,k1,Builtin.lenOf,LK,hfc,Addr.add_eq,j3]
    have fl:=bJ iE;have PE:∀(i:Nat),(cG cur.toList (rows.length*ie.size) news)[i]? =if rows.length*ie.size≤i∧i<rows.length*ie.size+news.length then news[i-rows.length*ie.size]? else cur[i]? :=by
     intro i;rw[eV];by_cases hi:rows.length*ie.size≤i∧i<rows.length*ie.size+news.length
     ·rw[if_pos hi,if_pos ⟨hi.1,hi.2,by simp;omega⟩]
     ·rw[if_neg hi,if_neg (fun h=>hi ⟨h.1,h.2.1⟩),Array.getElem?_toList]
    have adC:g.H b2≤rows.length*ie.size:=by rw[hH];exact Z9 _
    refine⟨_,w',g.new b2 (f (rows.length+xs.length)) (.cw q') g.B,cn,⟨iD.os,iD.tape,iD.output,by rw[iD.size];exact Nat.le_refl _,fun b hb hx=>?_,⟨⟨fun b=>?_,fun b i hi=>?_,fun b ms mc h0 hm=>(iD.other b (fun e=>by subst e;rw[iE]at hm;cases hm)).trans hm⟩,fun l hl=>⟨rfl,?_⟩⟩,fun b hb=>?_,fun a _=>iD.fz a⟩,?_,fun l hl=>?_⟩
    ·have dA:b≠b2:=fun e=>hx (by rw[e];exact hK)
     refine⟨iD.other b dA,?_,?_⟩<;>simp only[G.new]<;>rw[if_neg dA]
    ·simp only[G.new];split
     ·rename_i e;subst e;rw[hH];exact hfm _ _ (by omega)
     ·exact Nat.le_refl _
    ·by_cases e:b=b2
     ·subst e;rw[bF iD.block,bF iE,List.getElem?_toArray,PE,if_neg (by omega)]
     ·exact World.cell?_of_block (w:=w) (a:=⟨b,i,none⟩) (iD.other b e)
    ·simp only[G.new];rw[if_neg (fun e=>by rw[e,hK]at hl;cases hl)];exact hl
    ·rw[iD.size]at hb;simp only[G.new];rw[if_neg (by omega),if_neg (by omega)];exact hf b hb
    ·have oN:Ext g.H w (g.new b2 (f (rows.length+xs.length)) (.cw q') g.B).H w':=by
      refine⟨fun b=>?_,fun b i hi=>?_,fun b ms mc h0 hm=>(iD.other b (fun e=>by subst e;rw[iE]at hm;cases hm)).trans hm⟩
      ·simp only[G.new];split
       ·rename_i e;subst e;rw[hH];exact hfm _ _ (by omega)
       ·exact Nat.le_refl _
      ·by_cases e:b=b2
       ·subst e;rw[bF iD.block,bF iE,List.getElem?_toArray,PE,if_neg (by omega)]
       ·exact World.cell?_of_block (w:=w) (a:=⟨b,i,none⟩) (iD.other b e)
     refine .inr ⟨b2,cap,_,agm,by rw[List.length_append],iD.block,by rw[List.length_append];exact LK,hm,?_,?_,?_,by simp[G.new],by simp[G.new]⟩
     ·rw[List.size_toArray,aV,Array.length_toList];exact hs
     ·intro r rh;rcases List.mem_append.1 rh with rh | rh
      ·exact hr r rh
      ·exact hxr r rh
     ·have e1:((cG cur.toList (rows.length*ie.size) news).toArray.toList.take ((rows++xs).length*ie.size))=cur.toList.take (rows.length*ie.size)++news:=by
       apply List.ext_getElem?;intro i;have htl:(cur.toList.take (rows.length*ie.size)).length=rows.length*ie.size:=by
        have dP:cur.toList.length=cap*ie.size:=by simpa using hs
        rw[List.length_take,dP,Nat.min_eq_left (Nat.mul_le_mul_right _ oL)]
       have WM:(rows++xs).length*ie.size=rows.length*ie.size+news.length:=by rw[List.length_append,Nat.add_mul,hl]
       rw[WM];simp only[List.toList_toArray];by_cases hi:i<rows.length*ie.size
       ·rw[List.getElem?_take_of_lt (by omega),PE,if_neg (by omega),List.getElem?_append_left (by omega),List.getElem?_take_of_lt hi,Array.getElem?_toList]
       ·rw[List.getElem?_append_right (by omega),htl];by_cases PF:i<rows.length*ie.size+news.length
        ·rw[List.getElem?_take_of_lt PF,PE,if_pos ⟨by omega,PF⟩]
        ·rw[List.getElem?_eq_none (by rw[List.length_take];omega),List.getElem?_eq_none (by omega)]
      rw[e1,List.flatten_append];exact(hC2.append hC).ext oN
    ·have hl:(if g.B l=b2 then BK.cw q' else g.K (g.B l))= .box l:=hl;split at hl
     ·cases hl
     ·exact hl
   ·have holds:∀(j:Nat) u,(cur.toList.take (rows.length*ie.size))[j]? =some u→w.cell? ((⟨b2,0,none⟩:Addr).add j)=some u:=by
     intro j u hj;have aN:j<rows.length*ie.size:=by have:=(List.getElem?_eq_some_iff.1 hj).1;rw[List.length_take]at this;omega
     rw[List.getElem?_take_of_lt aN,Array.getElem?_toList]at hj;rw[Addr.add_eq,Nat.zero_add,bF iE];exact hj
    have hlen:(cur.toList.take (rows.length*ie.size)).length=rows.length*ie.size:=by
     have dP:cur.toList.length=cap*ie.size:=by simpa using hs
     rw[List.length_take,dP,Nat.min_eq_left (Nat.mul_le_mul_right _ oL)]
    have cn:=run_append_grow (P:=P) w t ty e ti z hu k1 k5 ⟨b2,0,none⟩ rows.length cap (cur.toList.take (rows.length*ie.size)) (by rw[hlen,k2]) holds ⟨b,o,none⟩ xs.length c news (by rw[k2];exact hl) LI (by omega) (by omega) (growslice_fits (by omega) (by rw[k3];exact hle));obtain⟨g',q1,q2,q3⟩:=made cap _ hC2 hlen hr (g.DX b2 .none) rfl (pK hf (bJ iE) hK) (fun l hl=>by
     have hl:(if g.B l=b2 then BK.none else g.K (g.B l))= .box l:=hl;split at hl
     ·cases hl
     ·exact hl)
    exact⟨_,_,g',cn,q1,q2,q3⟩
theorem D7(hT:bw P T){t ty e:TypeId}{ie:TI}(oM:T.elem t=some e)(fQ:T e=some ie)(tj:1≤ie.bytes)(hf:eW g w){q q':Place}{rows xs:List (List PV)}{v x:Value}
  (h:dG g w q ie.size rows v) (hx:cK w g.H (.sl ie.size xs) x) (hle:(rows.length+xs.length)*ie.bytes≤140737488355328):
  ∃y w' g',(Builtin.append_ #[t,t] ty #[v,x]).run P w= .ok y w'∧j8 (fun k=>k= .cw q) g w g' w'∧dG g' w' q' ie.size (rows++xs) y∧ ∀l,g'.K (g'.B l)= .box l→g.K (g.B l)= .box l:=
 tl (f:=fun m=>m*ie.size) hT oM fQ tj hf (fun _=>Nat.le_refl _) (fun _ _ h=>Nat.mul_le_mul_right _ h) h hx hle
theorem BX(hT:bw P T){t ty e:TypeId}{ie:TI}(oM:T.elem t=some e)(fQ:T e=some ie)(tj:1≤ie.bytes)(hf:eW g w){q q':Place}{rows xs:List (List PV)}{v x:Value}
  (h:fZ g w q ie.size rows v) (hx:cK w g.H (.sl ie.size xs) x) (hle:(rows.length+xs.length)*ie.bytes≤140737488355328):
  ∃y w' g',(Builtin.append_ #[t,t] ty #[v,x]).run P w= .ok y w'∧j8 (fun k=>k= .cw q) g w g' w'∧fZ g' w' q' ie.size (rows++xs) y∧ ∀l,g'.K (g'.B l)= .box l→g.K (g.B l)= .box l:=
 tl (f:=fun m=>0) hT oM fQ tj hf (fun _=>Nat.zero_le _) (fun _ _ h=>Nat.le_refl _) h hx hle
theorem Ar(S:St)(s t:Nat):(lL S s).get t=match S.get t with
  | .cp (.slot q) sz rows=>bif Nat.beq q s then .p (.sl sz rows)else .cp (.slot q) sz rows
  | .fS q w v=>bif Nat.beq q s then .dead else .fS q w v
  | v=>v:=rfl
theorem bR.lL(h:bR T n g0 w0 S g a w)(s:Nat):bR T n g0 w0 (lL S s) g a w:=by
 have Sg:∀t,t≠s→S.lock t=true→(Go.Hm.lL S s).lock t=true:=by
  intro t dA ht;show(bif Nat.beq s t then false else S.lock t)=true;rw[beq_false.2 (fun e=>dA e.symm)];exact ht
 have key:∀t,((Go.Hm.lL S s).get t=S.get t∧(∀sz rows,S.get t≠ .cp (.slot s) sz rows)∧(∀wt v,S.get t≠ .fS s wt v))∨(∃sz rows,S.get t= .cp (.slot s) sz rows∧(Go.Hm.lL S s).get t= .p (.sl sz rows))∨(∃wt v,S.get t= .fS s wt v∧(Go.Hm.lL S s).get t= .dead):=by
  intro t;rw[Ar];cases hg:S.get t with
  | cp q sz rows=>
   cases q with
   | slot q=>
    by_cases e:q=s
    ·subst e;right;left;exact⟨sz,rows,rfl,by simp[beq_true.2]⟩
    ·left;refine⟨by simp[beq_false.2 e],by simp[e],by simp⟩
   | cell l i=>left;exact⟨rfl,by simp,by simp⟩
   | res=>left;exact⟨rfl,by simp,by simp⟩
  | fS q wt v=>
   by_cases e:q=s
   ·subst e;right;right;exact⟨wt,v,rfl,by simp[beq_true.2]⟩
   ·left;exact⟨by simp[beq_false.2 e],by simp,by simp[e]⟩
  | _=>left;exact⟨rfl,by simp,by simp⟩
 exact {
  defers:=h.defers
  size:=h.size
  bH:=fun t=>by
   have hv:=h.bH t;rcases key t with⟨e,_⟩ | ⟨sz,rows,e1,e2⟩ | ⟨wt,v,e1,e2⟩
   ·rw[e];exact hv
   ·rw[e2];rw[e1]at hv;exact aA.p hv.1
   ·rw[e2];exact aA.dead _
  boxes:=h.boxes
  fresh:=h.fresh
  dc:=fun t agb sz rows e=>by
   rcases key t with⟨e0,h1,_⟩ | ⟨sz,rows,e1,e2⟩ | ⟨wt,v,e1,e2⟩
   ·rw[e0]at e;exact Sg agb (fun es=>h1 sz rows (by rw[e,es])) (h.dc t agb sz rows e)
   ·rw[e2]at e;cases e
   ·rw[e2]at e;cases e
  aJ:=fun t l e=>by
   rcases key t with⟨e0,h1,_⟩ | ⟨sz,rows,e1,e2⟩ | ⟨wt,v,e1,e2⟩
   ·rw[e0]at e;exact h.aJ t l e
   ·rw[e2]at e;cases e
   ·rw[e2]at e;cases e
  dm:=fun t sz rows e=>by
   rcases key t with⟨e0,h1,_⟩ | ⟨sz,rows,e1,e2⟩ | ⟨wt,v,e1,e2⟩
   ·rw[e0]at e;exact h.dm t sz rows e
   ·rw[e2]at e;cases e
   ·rw[e2]at e;cases e
  de:=fun t agb WJ v' e=>by
   rcases key t with⟨e0,_,h1⟩ | ⟨sz,rows,e1,e2⟩ | ⟨wt,v,e1,e2⟩
   ·rw[e0]at e;exact Sg agb (fun es=>h1 WJ v' (by rw[e,es])) (h.de t agb WJ v' e)
   ·rw[e2]at e;cases e
   ·rw[e2]at e;cases e
  live:=h.live
  frame:=h.frame}
theorem uP(S:St)(t:Nat):(gq S).get t=match S.get t with
  | .cp (.cell _ _) sz rows=> .p (.sl sz rows)
  | .vw _ _ _ _=> .dead
  | .el _ _ _ _ _=> .dead
  | .fS s w v=>(match eu (.fS s w v)with | some _=> .dead | none=> .fS s w v)
  | v=>v:=rfl
theorem JM(S:St)(t:Nat):((gq S).get t=S.get t∧eu (S.get t)=none)∨(∃l i sz rows,S.get t= .cp (.cell l i) sz rows∧(gq S).get t= .p (.sl sz rows))∨(gq S).get t= .dead:=by
 rw[uP];cases hg:S.get t with
 | cp q sz rows=>
  cases q with
  | cell l i=>right;left;exact⟨l,i,sz,rows,rfl,rfl⟩
  | _=>left;exact⟨rfl,rfl⟩
 | vw l i sz m=>right;right;rfl
 | el l i sz k o=>right;right;rfl
 | fS s b v=>
  simp only;cases hv:eu (.fS s b v)with
  | none=>left;exact⟨rfl,rfl⟩
  | some l=>right;right;rfl
 | _=>left;exact⟨rfl,rfl⟩
theorem bR.gq(h:bR T n g0 w0 S g a w):bR T n g0 w0 (gq S) g a w:=by
 have key:=JM S;exact {
  defers:=h.defers
  size:=h.size
  bH:=fun t=>by
   have hv:=h.bH t;rcases key t with⟨e,_⟩ | ⟨l,i,sz,rows,e1,e2⟩ | e2
   ·rw[e];exact hv
   ·rw[e2];rw[e1]at hv;exact aA.p hv.1
   ·rw[e2];exact aA.dead _
  boxes:=h.boxes
  fresh:=h.fresh
  dc:=fun t agb sz rows e=>by
   rcases key t with⟨e0,h1⟩ | ⟨l,i,sz,rows,e1,e2⟩ | e2
   ·rw[e0]at e;exact h.dc t agb sz rows e
   ·rw[e2]at e;cases e
   ·rw[e2]at e;cases e
  aJ:=fun t l e=>by
   rcases key t with⟨e0,h1⟩ | ⟨l,i,sz,rows,e1,e2⟩ | e2
   ·rw[e0,h1]at e;cases e
   ·rw[e2]at e;cases e
   ·rw[e2]at e;cases e
  dm:=fun t sz rows e=>by
   rcases key t with⟨e0,h1⟩ | ⟨l,i,sz,rows,e1,e2⟩ | e2
   ·rw[e0]at e;exact h.dm t sz rows e
   ·rw[e2]at e;cases e
   ·rw[e2]at e;cases e
  de:=fun t agb WJ v' e=>by
   rcases key t with⟨e0,h1⟩ | ⟨l,i,sz,rows,e1,e2⟩ | e2
   ·rw[e0]at e;exact h.de t agb WJ v' e
   ·rw[e2]at e;cases e
   ·rw[e2]at e;cases e
  live:=h.live
  frame:=h.frame}
theorem bR.Gb(hs:bR T n g0 w0 S g a w){l:Loc}{b b':er}(hb:S.bx l=some b)(mi:iB T g w l b'):bR T n g0 w0 (S.bK l b') g a w where
 defers:=hs.defers
 size:=hs.size
 bH:=hs.bH
 boxes m c hm:=by
  rw[St.cM]at hm;split at hm
  ·rename_i em;subst em;cases hm;exact mi
  ·exact hs.boxes m c hm
 fresh:=hs.fresh
 dc:=hs.dc
 aJ t age e:=by
  obtain⟨q1,b,q2⟩:=hs.aJ t age e;refine⟨q1,?_⟩;rw[St.cM];split
  ·exact⟨_,rfl⟩
  ·exact⟨b,q2⟩
 dm:=hs.dm
 de:=hs.de
 live k hk:=by
  rw[St.cM];split
  ·exact⟨_,rfl⟩
  ·exact hs.live k hk
 frame:=hs.frame
theorem qE(hs:bR T n g0 w0 S g a w){l:Loc}{ty:TypeId}{cs:List AV}(hb:S.bx l=some (.mix ty cs)){i sz:Nat}{rows:List (List PV)}(hi:fT cs i=some (.mo sz rows)):
  ∃xs agh,g.K (g.B l)= .box l∧g.H (g.B l)=0∧w.heap[g.B l]? =some (.cells xs agh (0,0))∧xs.size=T.size ty∧cs.length=xs.size∧(∀(i:Nat) v x,cs[i]? =some v→xs[i]? =some x→fk g w l i v x)∧
   ∃x,xs[i]? =some x∧fZ g w (.cell l i) sz rows x∧w.cell? ⟨g.B l,i,none⟩=some x:=by
 obtain⟨hK,hH,xs,Zf,hh,dZ,hl,hc⟩:=hs.boxes l _ hb;rw[eG]at hi;have bW:i<xs.size:=by have:=(List.getElem?_eq_some_iff.1 hi).1;omega
 have Lb:xs[i]? =some xs[i]:=Array.getElem?_eq_getElem bW;exact⟨xs,Zf,hK,hH,hh,dZ,hl,hc,xs[i],Lb,hc i _ _ hi Lb,by rw[bF hh];exact Lb⟩
theorem Tn{d:Nat}{sz:Nat}{rows:List (List PV)}{x:Value}(h:S.gG d (.mo sz rows) K)(hs:bR T n g0 w0 S g a w)(hd:d<n)(hv:fZ g w (.slot d) sz rows x)(hn:Rest T n g0 w0 K next):next (a.put (some d) x) w:=by
 obtain⟨hl,hk⟩:=bP h;exact hn _ _ _ _ hk (hs.put hd hl hv (fun s sz rows e=>by cases e) (fun l e=>by cases e) (fun sz rows e=>by cases e) (fun s wt v' e=>by cases e))
theorem nL{l:Loc}{cs:List AV}{xs:Array Value}{i:Nat}{v':AV}(hl:cs.length=xs.size)(hr:∀(j:Nat) v z,j≠i→cs[j]? =some v→xs[j]? =some z→fk g w l j v z)(hv:∀z,xs[i]? =some z→fk g w l i v' z):
  ∀(j:Nat) v z,(cG cs i [v'])[j]? =some v→xs[j]? =some z→fk g w l j v z:=by
 intro j v z hj hz;rw[eV]at hj;by_cases e:j=i
 ·subst e;have:=(Array.getElem?_eq_some_iff.1 hz).1;rw[if_pos ⟨Nat.le_refl _,by simp,by omega⟩]at hj;simp at hj;subst hj;exact hv z hz
 ·rw[if_neg (by simp;omega)]at hj;exact hr j v z e hj hz
theorem tn{o:Oper}{args:Array Operand}{tys:Array TypeId}{x y:Operand}{t:TypeId}(ho:o.op= .call ⟨.builtin .append,args,tys⟩)(ha:args.toList= [x,y])(ht:tys.toList= [t,t]){r:Value}(hr:(Builtin.append_ #[t,t] o.type #[a.eval x,a.eval y]).run P w= .ok r w'):
  (execOp a.eval o).run P w= .ok (.value r) w':=by
 have ZZ:args= #[x,y]:=Array.toList_inj.1 ha;have O9:tys= #[t,t]:=Array.toList_inj.1 ht;subst ZZ;subst O9;simp only[execOp,ho,resolve,List.map_toArray,List.map_cons,List.map_nil,Sem.run_bind,Sem.run_pure,Result.andThen_ok,invoke,builtin,hr]
theorem BY(hT:bw P T)(hs:bR T n g0 w0 S g a w){o:Oper}{args:Array Operand}{tys:Array TypeId}{x y:Operand}{t agh:TypeId}(ho:o.op= .call ⟨.builtin .append,args,tys⟩)(ha:args.toList= [x,y])(ht:tys.toList= [t,agh])
  (h:fV T S o.dst t agh x (bO T S [] t x) (bO T S [] t y) K) (hd:∀e,o.dst=some e→e<n) (hn:Rest T n g0 w0 K next) {Q:Exit→Act→World→Prop} :o.wp P a w next Q:=by
 have hX:=bN hT hs (c:= []) (by intro e he;cases he) t x;have hY:=bN hT hs (c:= []) (by intro e he;cases he) t y;unfold fV at h;cases Pd:Nat.beq t agh with
 | false=>rw[Pd]at h;exact h.elim
 | true=>
  have:=beq_true.1 Pd;subst this;rw[Pd]at h;simp only[Bool.not_true,cond_false]at h;split at h
  ·rename_i e d oM cE;have fin:∀(S1:St) (q:Place) (rows:List (List PV)),bR T n g0 w0 S1 g a w→dG g w q (T.size e) rows (a.eval x)→
     (∀g' w',j8 (fun k=>k= .cw q) g w g' w'→(∀l,g'.K (g'.B l)= .box l→g.K (g.B l)= .box l)→bR T n g0 w0 S1 g' a w')→
     (match(bO T S [] t y).rows with
      | some (db,xs)=>bif Nat.beq db (T.size e)&&Nat.ble 1 (T.size e)&&Nat.ble 1 (T.bytes e)then((rows.length+xs.length)*T.bytes e≤140737488355328∧ ∃r,rows++xs=r∧S1.gG d (.own (T.size e) r) K)else False
      | none=>False)→o.wp P a w next Q:=by
    intro S1 q rows gY hO WX aw;split at aw
    ·rename_i db xs WY;cases hb:(Nat.beq db (T.size e)&&Nat.ble 1 (T.size e)&&Nat.ble 1 (T.bytes e))with
     | false=>rw[hb]at aw;exact aw.elim
     | true=>
      rw[hb]at aw;simp only[cond_true]at aw;rw[Bool.and_eq_true,Bool.and_eq_true]at hb;obtain⟨⟨tj,iE⟩,Tp⟩:=hb;have e1:=beq_true.1 tj;subst e1;have e2:=Nat.le_of_ble_eq_true iE;have e3:=Nat.le_of_ble_eq_true Tp;obtain⟨ie,fQ⟩:∃ie,T e=some ie:=by
       cases hx:T e with
       | none=>simp[TE.size,hx]at e2
       | some i=>exact⟨i,rfl⟩
      have BN:=mz fQ;have WZ:T.bytes e=ie.bytes:=by simp[TE.bytes,fQ]
      obtain⟨hle,r,rfl,hk⟩:=aw;rw[BN]at hO hk WY;rw[WZ]at hle e3;obtain⟨v',w',g',cn,hc,W0,vR⟩:=D7 (q':= .slot d) (ty:=o.type) hT oM fQ e3 hs.fresh hO (m7 hY WY) hle;refine cW (tn ho ha ht cn) ?_;rw[cE];exact my hk (WX g' w' hc vR) (hd d cE) W0 hn
    ·exact aw.elim
   split at h
   ·rename_i db rows dq;rw[dq]at hX;cases hb:Nat.beq db (T.size e)with
    | false=>rw[hb]at h;exact h.elim
    | true=>
     rw[hb]at h;simp only[cond_true]at h;have e1:=beq_true.1 hb;subst e1;rcases tb (a:=a) dq with⟨ta,rfl,hg⟩ | ⟨dA,rfl,hx⟩
     ·simp only at h;obtain⟨hl,hk⟩:=bP h;have mM:aA g w (.p (.sl (T.size e) rows)) (a.eval (.tmp ta)):= .p hX;have gY:=hs.weaken hl mM;have DY:=hs.bH ta;rw[hg]at DY;refine fin _ (.slot ta) rows gY DY (fun g' w' hc vR=>gY.jq hc (by simp) (fun t ht=>?_) (fun l b hb hx=>?_) (fun t l _=>by simp) (fun k hk=>gY.live k (vR _ hk))) hk
      ·injection ht with ht
       injection ht with ht
       subst ht;rw[St.di,if_pos rfl];exact .of (mM.ext hc.ge)
      ·rcases hx with hx | ⟨i,hx⟩
       ·cases hx
       ·injection hx with hx;cases hx
     ·have hO:dG g w .res (T.size e) [] (a.eval x):= .inl ⟨rfl,hx⟩;have aw:(match(bO T S [] t y).rows with
        | some (db,xs)=>bif Nat.beq db (T.size e)&&Nat.ble 1 (T.size e)&&Nat.ble 1 (T.bytes e)then((([]:List (List PV)).length+xs.length)*T.bytes e≤140737488355328∧ ∃r,[]++xs=r∧S.gG d (.own (T.size e) r) K)else False
        | none=>False):=by
       cases x with
       | tmp s=>exact absurd rfl (dA s)
       | _=>exact h
      refine fin S .res [] hs hO (fun g' w' hc vR=>hs.jq hc (by simp) (fun t ht=>by injection ht with ht;cases ht) (fun l b hb hx=>?_) (fun t l _=>by simp) (fun k hk=>hs.live k (vR _ hk))) aw;rcases hx with hx | ⟨i,hx⟩
      ·cases hx
      ·injection hx with hx;cases hx
   ·rename_i s PG xV dq;split at h
    ·rename_i xE rows FF;cases hb:Nat.beq xE (T.size e)with
     | false=>rw[hb]at h;exact h.elim
     | true=>
      rw[hb]at h;simp only[cond_true]at h;have e1:=beq_true.1 hb;subst e1;have D8:=hs.bH s;rw[FF]at D8;have hO:dG g w (.slot s) (T.size e) rows (a.tmps.getD s undef):=D8;have mh:a.eval x=a.tmps.getD s undef:=by
       cases x with
       | tmp ta=>
        have W3:=hs.bH ta;have hg:S.get ta= .cp (.slot s) PG xV:=by
         have dq:under [] (S.get ta)= .cp (.slot s) PG xV:=dq;unfold under at dq;split at dq
         ·cases dq
         ·exact dq
        rw[hg]at W3;have h2:a.tmps[s]? =some (a.tmps.getD ta undef):=W3.2.1;show a.tmps.getD ta undef=_;rw[Array.getD_eq_getD_getElem? (i:=s),h2];rfl
       | const v=>
        have dq:fU T t v= .cp (.slot s) PG xV:=dq;unfold fU at dq;split at dq<;>first | cases dq | (split at dq<;>cases dq)
       | global _=>cases dq
       | func _=>cases dq
      have mM:aA g w (.p (.sl (T.size e) rows)) (a.tmps.getD s undef):= .p hO.K3;have gY:=hs.lL s;have kf:=gY.weaken (s:=s) (by show(bif Nat.beq s s then false else S.lock s)=false;rw[beq_true.2 rfl];rfl) mM;refine fin _ (.slot s) rows kf (by rw[mh];exact hO) (fun g' w' hc vR=>kf.jq hc (by simp) (fun t ht=>?_) (fun l b hb hx=>?_) (fun t l _=>by simp) (fun k hk=>kf.live k (vR _ hk))) h
      ·injection ht with ht
       injection ht with ht
       subst ht;rw[St.di,if_pos rfl];exact .of (mM.ext hc.ge)
      ·rcases hx with hx | ⟨i,hx⟩
       ·cases hx
       ·injection hx with hx;cases hx
    ·exact h.elim
   ·rename_i l i PG xV dq;split at h
    ·rename_i ty cs hb;split at h
     ·rename_i xE rows tp;cases Tq:Nat.beq xE (T.size e)with
      | false=>rw[Tq]at h;exact h.elim
      | true=>
       rw[Tq]at h;simp only[cond_true]at h;have e1:=beq_true.1 Tq;subst e1;rw[eG]at tp;obtain⟨hK,hH,xs,Zf,hh,dZ,hl,hc⟩:=hs.boxes l _ hb;have bW:i<xs.size:=by have:=(List.getElem?_eq_some_iff.1 tp).1;omega
       have Lb:xs[i]? =some xs[i]:=Array.getElem?_eq_getElem bW;have hO:dG g w (.cell l i) (T.size e) rows xs[i]:=hc i _ _ tp Lb;have mh:a.eval x=xs[i]:=by
        cases x with
        | tmp ta=>
         have W3:=hs.bH ta;have hg:S.get ta= .cp (.cell l i) PG xV:=by
          have dq:under [] (S.get ta)= .cp (.cell l i) PG xV:=dq;unfold under at dq;split at dq
          ·cases dq
          ·exact dq
         rw[hg]at W3;have h2:w.cell? ⟨g.B l,i,none⟩=some (a.tmps.getD ta undef):=W3.2.1;rw[bF hh,Lb]at h2;exact(Option.some.inj h2).symm
        | const v=>
         have dq:fU T t v= .cp (.cell l i) PG xV:=dq;unfold fU at dq;split at dq<;>first | cases dq | (split at dq<;>cases dq)
        | global _=>cases dq
        | func _=>cases dq
       have mM:aA g w (.p (.sl (T.size e) rows)) xs[i]:= .p hO.K3;have gY:=hs.gq;have tj:(Go.Hm.gq S).bx l=some (.mix ty cs):=hb;have mk:∀(g':G) (w':World),uG g w g' w'→(∀(j:Nat) v z,j≠i→cs[j]? =some v→xs[j]? =some z→fk g' w' l j v z)→ ∀(j:Nat) v z,(cG cs i [.p (.sl (T.size e) rows)])[j]? =some v→xs[j]? =some z→fk g' w' l j v z:=by
        intro g' w' oN hr j v z hv hz;rw[eV]at hv;by_cases hj:j=i
        ·subst hj;rw[if_pos ⟨Nat.le_refl _,by simp,by omega⟩]at hv;simp at hv;subst hv;rw[Lb]at hz;cases hz;exact(mM.ext oN)
        ·rw[if_neg (by simp;omega)]at hv;exact hr j v z hj hv hz
       have kf:bR T n g0 w0 ((Go.Hm.gq S).bK l (.mix ty (cG cs i [.p (.sl (T.size e) rows)]))) g a w:= {
        defers:=gY.defers
        size:=gY.size
        bH:=gY.bH
        boxes:=fun m c hm=>by
         rw[St.cM]at hm;split at hm
         ·rename_i em;subst em;cases hm;exact xU hK hH hh dZ (by rw[aV];exact hl) (mk g w (.refl _ _) (fun j v z _ h1 h2=>hc j v z h1 h2))
         ·exact gY.boxes m c hm
        fresh:=gY.fresh
        dc:=gY.dc
        aJ:=fun t age e=>by
         obtain⟨q1,b,q2⟩:=gY.aJ t age e;refine⟨q1,?_⟩;rw[St.cM];split
         ·exact⟨_,rfl⟩
         ·exact⟨b,q2⟩
        dm:=gY.dm
        de:=gY.de
        live:=fun k hk=>by
         rw[St.cM];split
         ·exact⟨_,rfl⟩
         ·exact gY.live k hk
        frame:=gY.frame}
       refine fin _ (.cell l i) rows kf (by rw[mh];exact hO) (fun g' w' tq vR=>kf.jq tq (by simp) (fun t ht=>by injection ht with ht;cases ht) (fun m c hm hx=>?_) (fun t l _=>by simp) (fun k hk=>kf.live k (vR _ hk))) h;rcases hx with hx | ⟨agz,hx⟩
       ·cases hx
       ·injection hx with hx
        injection hx with h1 h2
        subst h1;subst h2;rw[St.cM,if_pos rfl]at hm;cases hm;have aN:=bJ hh;obtain⟨q1,q2,q3⟩:=tq.same _ aN (by rw[hK];simp);have hB:=tq.ge.box _ hK;refine xU (by rw[hB.1];exact hB.2) (by rw[hB.1,q2];exact hH) (by rw[hB.1,q1];exact hh) dZ (by rw[aV];exact hl) (mk g' w' tq.ge (fun j v z hj h1 h2=>(hc j v z h1 h2).jq tq (by simp;intro e;exact absurd e hj)))
     ·exact h.elim
    ·exact h.elim
   ·rename_i l i PG m dq;rw[dq]at hX;split at h
    ·rename_i ty cs hb;split at h
     ·rename_i xE rows tp;cases Tq:Nat.beq xE (T.size e)with
      | false=>rw[Tq]at h;exact h.elim
      | true=>
       rw[Tq]at h;simp only[cond_true]at h;have e1:=beq_true.1 Tq;subst e1;obtain⟨hm,h⟩:=h;subst hm;obtain⟨xs,Zf,hK,hH,hh,dZ,hl,hc,xi,Lb,hO,bU⟩:=qE hs hb tp;have mh:a.eval x=xi:=by
        obtain⟨A,ago,cap,k1,k3,_⟩:=(show ia g w (.vw l i PG rows.length) (a.eval x)from hX);rw[bU]at k1;cases k1;have BZ:ago=rows.length:=by
         rcases hO with⟨o1,o2⟩ | ⟨b2,tt,cur,e2,o2,_⟩
         ·cases o2;subst o1;rfl
         ·cases o2;rfl
        rw[k3,BZ]
       split at h
       ·rename_i db ys WY;cases iE:(Nat.beq db (T.size e)&&Nat.ble 1 (T.size e)&&Nat.ble 1 (T.bytes e))with
        | false=>rw[iE]at h;exact h.elim
        | true=>
         rw[iE]at h;simp only[cond_true]at h;rw[Bool.and_eq_true,Bool.and_eq_true]at iE;obtain⟨⟨tj,iE⟩,Tp⟩:=iE;have e1:=beq_true.1 tj;subst e1;have e2:=Nat.le_of_ble_eq_true iE;have e3:=Nat.le_of_ble_eq_true Tp;obtain⟨ie,fQ⟩:∃ie,T e=some ie:=by
          cases hx:T e with
          | none=>simp[TE.size,hx]at e2
          | some i=>exact⟨i,rfl⟩
         have BN:=mz fQ;have WZ:T.bytes e=ie.bytes:=by simp[TE.bytes,fQ]
         obtain⟨hle,r,rfl,hk⟩:=h;rw[BN]at hO hk WY;rw[WZ]at hle e3;rw[←mh]at hO;obtain⟨v',w',g',cn,tq,W0,vR⟩:=BX (q':= .slot d) (ty:=o.type) hT oM fQ e3 hs.fresh hO (m7 hY WY) hle;refine cW (tn ho ha ht cn) ?_;rw[cE];have gY:bR T n g0 w0 ((Go.Hm.gq S).bK l (.mix ty (cG cs i [.dead]))) g a w:=
          hs.gq.Gb (b:= .mix ty cs) hb (xU hK hH hh dZ (by rw[aV];exact hl) (nL hl (fun j v z _ h1 h2=>hc j v z h1 h2) (fun z _=>aA.dead z)))
         have kf:bR T n g0 w0 ((Go.Hm.gq S).bK l (.mix ty (cG cs i [.dead]))) g' a w':=by
          refine gY.jq tq (by simp) (fun t ht=>by injection ht with ht;cases ht) (fun m c hm hx=>?_) (fun t l _=>by simp) (fun k hk=>gY.live k (vR _ hk));rcases hx with hx | ⟨agz,hx⟩
          ·cases hx
          ·injection hx with hx
           injection hx with h1 h2
           subst h1;subst h2;rw[St.cM,if_pos rfl]at hm;cases hm;have aN:=bJ hh;obtain⟨q1,q2,q3⟩:=tq.same _ aN (by rw[hK];simp);have hB:=tq.ge.box _ hK;exact xU (by rw[hB.1];exact hB.2) (by rw[hB.1,q2];exact hH) (by rw[hB.1,q1];exact hh) dZ (by rw[aV];exact hl) (nL hl (fun j v z hj h1 h2=>(hc j v z h1 h2).jq tq (by simp;intro e;exact absurd e hj)) (fun z _=>aA.dead z))
         exact Tn hk kf (hd d cE) W0 hn
       ·exact h.elim
     ·exact h.elim
    ·exact h.elim
   ·exact h.elim
  ·exact h.elim
end
section
variable {P:Program} {T:TE} {n:Nat} {g0 g g':G} {w0 w w':World} {S:St} {a:Act} {ops:List Oper} {next:Act→World→Prop} {K:St→Prop} {X:BK→Prop}
theorem tu{f:FuncId}(h:mL P f)(xs:Array Value):(callFunc f xs).run P w= .ok (.enter f xs) w:=by
 obtain⟨fn,h1,h2,h3⟩:=h;unfold callFunc;simp only[Sem.run_bind,run_program,Result.andThen_ok,h1,h2,h3,Bool.false_eq_true,if_false,Sem.run_pure]
theorem tv{o:Oper}{x:Operand}{args:Array Operand}{tys:Array TypeId}(ho:o.op= .call ⟨.value x,args,tys⟩){f:FuncId}{p q:Array Value}(hx:a.eval x= .func (.func f) p q)(h:mL P f):
  (execOp a.eval o).run P w= .ok (.enter f (p++args.map a.eval++q)) w:=by
 simp only[execOp,ho,resolve,hx,Deferred.ofValue,Sem.run_bind,Sem.run_pure,Result.andThen_ok,invoke,tu h]
theorem B0{o:Oper}{f:FuncId}{xs:Array Value}{Q:Exit→Act→World→Prop}(h:(execOp a.eval o).run P w= .ok (.enter f xs) w){R:Value→World→Prop}
  (hc:Calls P f xs w fun e w'=>∃x,e= .returned x∧R x w') (hn:∀x w',R x w'→next (a.put o.dst x) w'):o.wp P a w next Q:=by
 unfold Oper.wp;rw[h];refine hc.mono fun e w' hr=>?_
 obtain⟨x,rfl,hR⟩:=hr;exact hn x w' hR
def G.bare(g:G):G:=⟨g.H,fun _=> .none,g.B,g.D⟩
theorem xW(h:eW g w):eW g.bare w:=fun b hb=>⟨(h b hb).1,rfl⟩
theorem LL{r r1:AV}{x:Value}(h:FO r=some r1)(hr:m8 g' w r x){g2:G}(hH:g2.H=g'.H){q:Place}(aab:∀sz rows,dG g' w .res sz rows x→dG g2 w q sz rows x):
  (∃sz rows,r1= .own sz rows∧dG g2 w q sz rows x)∨((∀sz rows,r1≠ .own sz rows)∧aA g2 w r1 x):=by
 have gen:aA g' w r x→FO r=mn 4 r→(∃sz rows,r1= .own sz rows∧dG g2 w q sz rows x)∨((∀sz rows,r1≠ .own sz rows)∧aA g2 w r1 x):=by
  intro hA e;rw[e]at h;have rh:=qC hH 4 h hA.K6;refine .inr ⟨fun sz rows e=>?_,rh⟩;subst e;exact rh.xK
 cases r with
 | own sz rows=>cases h;exact .inl ⟨sz,rows,rfl,aab _ _ hr⟩
 | dE vs=>
  right;simp only[FO]at h;split at h
  ·rename_i l hl;cases h;refine⟨by simp,?_⟩;obtain⟨xs,rfl,h1,h2⟩:=aA.BO (show aA g' w (.dE vs) x from hr);obtain⟨e1,e2⟩:=dr hl;refine .dE (by omega) (fun j u y hu hy=>?_);have hj:j<vs.length:=by have:=(List.getElem?_eq_some_iff.1 hu).1;omega
   have hv:vs[j]? =some vs[j]:=List.getElem?_eq_getElem hj;exact qC hH 4 (e2 j _ u hv hu) (h2 j _ y hv hy).K6
  ·cases h
 | _=>exact gen hr rfl
theorem JN(hs:bR T n g0 w0 S g a w)(d:Nat)(hf:Frame g.bare w g' w')(lp:eW g' w'){r r1:AV}{x:Value}(hr:m8 g' w' r x)(zQ:FO r=some r1):
  ∃g2,bR T n g0 w0 S g2 a w'∧((∃sz rows,r1= .own sz rows∧dG g2 w' (.slot d) sz rows x)∨((∀sz rows,r1≠ .own sz rows)∧aA g2 w' r1 x)):=by
 let g2:G:=⟨g'.H,fun b=>if b<w.heap.size then g.K b else match g'.K b with | .cw .res=> .cw (.slot d) | _=> .none,g.B,g.D⟩
 have Si:∀b,b<w.heap.size→g2.K b=g.K b:=fun b hb=>by simp[g2,hb]
 have hc:j8 (fun _=>False) g w g2 w':= {
  os:=hf.os
  tape:=hf.tape
  fz:=hf.fz
  output:=hf.output
  size:=hf.size
  same:=fun b hb _=>by
   obtain⟨h1,h2,h3⟩:=hf.bM b hb rfl;exact⟨h1,h2,Si b hb⟩
  ge:=⟨hf.ge.ext,fun l hl=>⟨rfl,by
   have aN:g.B l<w.heap.size:=by
    rcases Nat.lt_or_ge (g.B l) w.heap.size with h | h
    ·exact h
    ·rw[(hs.fresh _ h).2]at hl;cases hl
   rw[Si _ aN];exact hl⟩⟩
  fresh:=fun b hb=>by
   obtain⟨h1,h2⟩:=lp b hb;refine⟨h1,?_⟩;have:¬b<w.heap.size:=by have:=hf.size;omega
   simp[g2,this,h2]}
 refine⟨g2,hs.grow hc (fun k hk=>?_),LL (g2:=g2) (q:= .slot d) zQ hr rfl (fun sz rows hO=>?_)⟩
 ·have hk:(if g.B (.own k)<w.heap.size then g.K (g.B (.own k))else match g'.K (g.B (.own k))with | .cw .res=>BK.cw (.slot d) | _=> .none)= .box (.own k):=hk;split at hk
  ·exact hk
  ·split at hk<;>cases hk
 ·rcases hO with h | ⟨b,cap,cur,e,rfl,hb,oL,hm,JL,tk,hC,hH,hK⟩
  ·exact .inl h
  ·refine .inr ⟨b,cap,cur,e,rfl,hb,oL,hm,JL,tk,hC,hH,?_⟩;have oN:¬b<w.heap.size:=by
    intro aN;rw[(hf.bM b aN rfl).2.2]at hK;cases hK
   simp[g2,oN,hK]
theorem D9{d:Option Nat}{r1:AV}{x:Value}(h:bT S d r1 K)(hs:bR T n g0 w0 S g a w)(hd:∀e,d=some e→e<n)
  (hr:(∃sz rows,r1= .own sz rows∧ ∀e,d=some e→dG g w (.slot e) sz rows x)∨((∀sz rows,r1≠ .own sz rows)∧aA g w r1 x)) (hn:Rest T n g0 w0 K next):next (a.put d x) w:=by
 rcases hr with⟨sz,rows,rfl,hO⟩ | ⟨_,hA⟩
 ·cases d with
  | none=>exact hn _ _ _ _ h hs
  | some d=>exact my h hs (hd d rfl) (hO d rfl) hn
 ·exact gy h hs hd hA hn
theorem As{agG args:List AV}{xs:Array Value}(h:fj (mn 4) args=some agG)(hl:args.length=xs.size)(hr:∀(j:Nat) u x,args[j]? =some u→xs[j]? =some x→cU g w u x){g2:G}(hH:g2.H=g.H):
  agG.length=xs.size∧ ∀(j:Nat) u x,agG[j]? =some u→xs[j]? =some x→aA g2 w u x:=by
 obtain⟨h1,h2⟩:=dr h;refine⟨by omega,fun j u x hu hx=>?_⟩;have hj:j<args.length:=by have:=(List.getElem?_eq_some_iff.1 hu).1;omega
 have hv:args[j]? =some args[j]:=List.getElem?_eq_getElem hj;exact qC hH 4 (h2 j _ u hv hu) (hr j _ x hv hx)
theorem Ea{o:Oper}{f:FuncId}{xs:Array Value}(cn:mL P f→(execOp a.eval o).run P w= .ok (.enter f xs) w){args agG:List AV}(hm:fj (mn 4) args=some agG)(hl:args.length=xs.size)(hr:∀(j:Nat) u x,args[j]? =some u→xs[j]? =some x→cU g w u x)
  (hs:bR T n g0 w0 S g a w) {r r1:AV} (hj:fA P T f agG [] r []) (zQ:FO r=some r1) (d:Nat) {Q:Exit→Act→World→Prop}
  (hn:∀x g2 w2,bR T n g0 w0 S g2 a w2→((∃sz rows,r1= .own sz rows∧dG g2 w2 (.slot d) sz rows x)∨((∀sz rows,r1≠ .own sz rows)∧aA g2 w2 r1 x))→next (a.put o.dst x) w2):o.wp P a w next Q:=by
 obtain⟨cq,hj⟩:=hj;obtain⟨e1,e2⟩:=As (g2:=g.bare) hm hl hr rfl;have hc:=hj g.bare w xs (xW hs.fresh) (fun b k=>by simp[G.bare]) e1 e2 (by simp);refine B0 (R:=fun x w'=>∃g',Frame g.bare w g' w'∧eW g' w'∧m8 g' w' r x) (cn cq) (hc.mono fun e w' h=>?_) (fun x w' hR=>?_)
 ·obtain⟨x,g',rfl,h1,h2,h3,_⟩:=h;exact⟨x,rfl,g',h1,h2,h3⟩
 ·obtain⟨g',h1,h2,h3⟩:=hR;obtain⟨g2,k1,k2⟩:=JN hs d h1 h2 h3 zQ;exact hn x g2 w' k1 k2
end
theorem Au{ls:List Loc}{l:Loc}{i j:Nat}(h:DN ls l i=some j):i≤j∧ls[j-i]? =some l:=by
 induction ls generalizing i with
 | nil=>cases h
 | cons s r ih=>
  unfold DN at h;cases hb:Loc.mI s l with
  | true=>
   rw[hb]at h;have h:some i=some j:=h;cases h;exact⟨Nat.le_refl _,by rw[Nat.sub_self];simp[Loc.fJ.1 hb]⟩
  | false=>
   rw[hb]at h;obtain⟨h1,h2⟩:=ih h;refine⟨by omega,?_⟩;have e:j-i=(j-(i+1))+1:=by omega
   rw[e];simpa using h2
theorem Av{ls:List Loc}{l:Loc}{i:Nat}(h:DN ls l i=none):l∉ls:=by
 induction ls generalizing i with
 | nil=>simp
 | cons s r ih=>
  unfold DN at h;cases hb:Loc.mI s l with
  | true=>rw[hb]at h;cases h
  | false=>
   rw[hb]at h;have:=ih h;simp only[List.mem_cons,not_or];exact⟨fun e=>Loc.lE.1 hb e.symm,this⟩
theorem LM{ls:List Loc}(hn:ls.Nodup){l:Loc}{j:Nat}(h:ls[j]? =some l):DN ls l 0=some j:=by
 cases hp:DN ls l 0 with
 | none=>
  have:=Av hp;exact absurd (List.mem_of_getElem? h) this
 | some k=>
  obtain⟨_,hk⟩:=Au hp;have b9:k<ls.length:=(List.getElem?_eq_some_iff.1 hk).1;have:k=j:=(List.getElem?_inj b9 hn).1 (by rw[h];simpa using hk);rw[this]
theorem je{ls:List Loc}{l:Loc} :rb ls l=true↔l∈ls:=by
 induction ls with
 | nil=>simp[rb]
 | cons s r ih=>
  unfold rb;cases hb:Loc.mI s l with
  | true=>simp[Loc.fJ.1 hb]
  | false=>simp only[cond_false,ih,List.mem_cons];exact⟨.inr,fun h=>h.elim (fun e=>absurd e.symm (Loc.lE.1 hb)) id⟩
theorem kg{acc ls:List Loc}(h:acc.Nodup):(sQ acc ls).Nodup:=by
 induction ls generalizing acc with
 | nil=>exact h
 | cons l r ih=>
  unfold sQ;cases hb:rb acc l with
  | true=>exact ih h
  | false=>
   refine ih ?_;show(acc++ [l]).Nodup;have:l∉acc:=fun e=>by rw[je.2 e]at hb;cases hb
   rw[List.nodup_append];exact⟨h,by simp,fun a ha b hb e=>by simp at hb;subst hb;subst e;exact this ha⟩
theorem mB{S:St}{m:Nat}{acc:List Loc}(h:acc.Nodup):(reach S m acc).Nodup:=by
 induction m generalizing acc with
 | zero=>exact h
 | succ m ih=>exact ih (kg h)
theorem uQ:∀(ls:List Loc) (bs:List er) (S:St),(fW S ls bs).get=S.get∧(fW S ls bs).lock=S.lock∧(fW S ls bs).aJ=S.aJ
 | [],_,S=>by simp[fW]
 | _::_,[],S=>by simp[fW]
 | l::ls,b::bs,S=>uQ ls bs (S.bK l b)
theorem xX:∀(ls:List Loc) (bs:List er) (S:St),ls.Nodup→ls.length=bs.length→
  (∀(j:Nat) m b,ls[j]? =some m→bs[j]? =some b→(fW S ls bs).bx m=some b)∧(∀m,m∉ls→(fW S ls bs).bx m=S.bx m)
 | [],_,S,_,_=>by simp[fW]
 | _::_,[],S,_,h=>by simp at h
 | l::ls,b::bs,S,hn,h=>by
  obtain⟨h1,h2⟩:=xX ls bs (S.bK l b) (List.nodup_cons.1 hn).2 (by simpa using h);refine⟨fun j m c hm hc=>?_,fun m hm=>?_⟩
  ·cases j with
   | zero=>
    simp at hm hc;subst hm;subst hc;show(fW (S.bK l b) ls bs).bx l=some b;rw[h2 l (List.nodup_cons.1 hn).1,St.cM,if_pos rfl]
   | succ j=>exact h1 j m c (by simpa using hm) (by simpa using hc)
  ·simp only[List.mem_cons,not_or]at hm;show(fW (S.bK l b) ls bs).bx m=S.bx m;rw[h2 m hm.2,St.cM,if_neg (fun e=>hm.1 e.symm)]
section
variable {P:Program} {T:TE} {n:Nat} {g0 g g':G} {w0 w w':World} {S:St} {a:Act} {ops:List Oper} {next:Act→World→Prop} {K:St→Prop} {X:BK→Prop}
structure Tr(r:Loc→Option Loc)(g g':G):Prop where
 H:g'.H=g.H
 box:∀l age,r l=some age→g.K (g.B l)= .box l→g'.B age=g.B l∧g'.K (g.B l)= .box age
 own:∀b l age i,r l=some age→g.K b= .cw (.cell l i)→g'.K b= .cw (.cell age i)
theorem lT{r:Loc→Option Loc}(hR:Tr r g g'):∀(m:Nat) {v u:AV} {x:Value},lg r m v=some u→aA g w v x→aA g' w u x:=by
 intro m;have hH:=hR.H;induction m with
 | zero=>intro v u x h;cases h
 | succ m ih=>
  intro v u x h hv;have Ly:∀ {l age:List AV} {xs:Array Value},fj (lg r m) l=some age→l.length=xs.size→(∀(j:Nat) u x,l[j]? =some u→xs[j]? =some x→aA g w u x)→
    age.length=xs.size∧ ∀(j:Nat) u x,age[j]? =some u→xs[j]? =some x→aA g' w u x:=by
   intro l age xs h1 h2 h3;obtain⟨e1,e2⟩:=dr h1;refine⟨by omega,fun j u x hu hx=>?_⟩;have hj:j<l.length:=by have:=(List.getElem?_eq_some_iff.1 hu).1;omega
   have hl:l[j]? =some l[j]:=List.getElem?_eq_getElem hj;exact ih (e2 j _ u hl hu) (h3 j _ x hl hx)
  unfold lg at h;cases v with
  | p v=>cases h;exact .p (by rw[hH];exact aA.eg hv)
  | agg cs=>cases h;obtain⟨xs,rfl,hc⟩:=aA.jN hv;exact .agg (by rw[hH];exact hc)
  | own sz rows=>exact hv.xK.elim
  | cp q sz rows=>exact hv.lQ.elim
  | mo sz rows=>exact hv.WI.elim
  | ro sz cs o=>cases h;obtain⟨b,ob,rfl,dP,hf⟩:=xI hv;exact .ro dP (by rw[hH];exact hf)
  | gm=>cases h;cases hv;exact .gm
  | aP=>cases h;cases hv;exact .aP
  | fD=>cases h;cases hv;exact .fD
  | fI ag es=>cases h;cases hv with | fI h1 h2 h3=>exact .fI (by rw[hH];exact h1) h2 (by rw[hH];exact h3)
  | yl l vs xs=>
   simp only at h;split at h
   ·rename_i age Y8 hl h1;cases h;cases hv with
    | yl k1 k2 k3 k4=>
     subst k1;obtain⟨a1,a2⟩:=hR.box l age hl k2;obtain⟨b1,b2⟩:=Ly (xs:=xs.toArray) h1 (by simpa using k3) (fun j u x hu hx=>k4 j u x hu (by simpa using hx));exact .yl a1 a2 (by simpa using b1) (fun j u x hu hx=>b2 j u x hu (by simpa using hx))
   ·cases h
  | ptr l o=>
   simp only at h;split at h
   ·rename_i age hl;cases h;obtain⟨rfl,hK⟩:=jm hv;obtain⟨h1,h2⟩:=hR.box l age hl hK;exact .ptr h1 h2
   ·cases h
  | dF l=>
   simp only at h;split at h
   ·rename_i age hl;cases h;cases hv with
    | dF h1 h2=>
     subst h1;obtain⟨k1,k2⟩:=hR.box l age hl h2;exact .dF k1 k2
   ·cases h
  | bs l sz q=>
   simp only at h;split at h
   ·rename_i age hl;cases h;cases hv with
    | bs h1 h2 h3=>
     subst h1;obtain⟨k1,k2⟩:=hR.box l age hl h2;exact .bs k1 k2 h3
   ·cases h
  | bp l sz k o=>
   simp only at h;split at h
   ·rename_i age hl;cases h;cases hv with
    | bp h1 h2=>
     subst h1;obtain⟨k1,k2⟩:=hR.box l age hl h2;exact .bp k1 k2
   ·cases h
  | iX v=>
   simp only at h;split at h
   ·rename_i v' w7;cases h;cases hv with
    | iX h1 h2 h3=>exact .iX (by rw[hH];exact h1) h2 (ih w7 h3)
   ·cases h
  | iA sz=>cases h;cases hv;exact .iA sz
  | fn f p q=>
   simp only at h;split at h
   ·rename_i agw q' h1 h2;cases h;cases hv with
    | fn k1 k2 k3 k4=>
     obtain⟨a1,a2⟩:=Ly h1 k1 k2;obtain⟨b1,b2⟩:=Ly h2 k3 k4;exact .fn a1 a2 b1 b2
   ·cases h
  | mix cs=>
   simp only at h;split at h
   ·rename_i Af h1;cases h;obtain⟨xs,rfl,k1,k2⟩:=aA.w8 hv;obtain⟨a1,a2⟩:=Ly h1 k1 k2;exact .mix a1 a2
   ·cases h
  | dE cs=>
   simp only at h;split at h
   ·rename_i Af h1;cases h;obtain⟨xs,rfl,k1,k2⟩:=aA.BO hv;obtain⟨a1,a2⟩:=Ly h1 k1 k2;exact .dE a1 a2
   ·cases h
  | dead=>cases h;exact .dead x
  | _=>cases h
theorem dG.V5{q q':Place}{sz:Nat}{rows:List (List PV)}{x:Value}(hH:g'.H=g.H)(hq:∀b,g.K b= .cw q→g'.K b= .cw q')(h:dG g w q sz rows x):dG g' w q' sz rows x:=by
 rcases h with h | ⟨b,cap,cur,e,rfl,hb,oL,hm,hs,hr,hC,hHb,hK⟩
 ·exact .inl h
 ·exact .inr ⟨b,cap,cur,e,rfl,hb,oL,hm,hs,hr,by rw[hH];exact hC,by rw[hH];exact hHb,hq b hK⟩
theorem fZ.V5{q q':Place}{sz:Nat}{rows:List (List PV)}{x:Value}(hH:g'.H=g.H)(hq:∀b,g.K b= .cw q→g'.K b= .cw q')(h:fZ g w q sz rows x):fZ g' w q' sz rows x:=by
 rcases h with h | ⟨b,cap,cur,e,rfl,hb,oL,hm,hs,hr,hC,hHb,hK⟩
 ·exact .inl h
 ·exact .inr ⟨b,cap,cur,e,rfl,hb,oL,hm,hs,hr,by rw[hH];exact hC,by rw[hH];exact hHb,hq b hK⟩
theorem kE{r:Loc→Option Loc}(hR:Tr r g g'){l age:Loc}(hl:r l=some age){b b':er}(h:rP r b=some b')(hb:iB T g w l b):iB T g' w age b':=by
 obtain⟨hB,hK⟩:=hR.box l age hl hb.gV;cases b with
 | pure ty cs=>
  cases h;obtain⟨k1,k2,xs,t,k3,k4,k5⟩:=hb;refine⟨by rw[hB];exact hK,by rw[hB,hR.H];exact k2,xs,t,by rw[hB];exact k3,k4,by rw[hR.H];exact k5⟩
 | mix ty cs=>
  unfold rP at h;simp only at h;split at h
  ·rename_i Af rX;cases h;obtain⟨k1,k2,xs,t,k3,k4,k5,k6⟩:=hb;obtain⟨e1,e2⟩:=dr rX;refine⟨by rw[hB];exact hK,by rw[hB,hR.H];exact k2,xs,t,by rw[hB];exact k3,k4,by omega,fun i u x hu hx=>?_⟩;have hj:i<cs.length:=by have:=(List.getElem?_eq_some_iff.1 hu).1;omega
   have hc:cs[i]? =some cs[i]:=List.getElem?_eq_getElem hj;have Gc:=e2 i _ u hc hu;have hk:=k6 i _ x hc hx;generalize cs[i]=v at Gc hk;cases v with
   | own sz rows=>
    cases Gc;exact dG.V5 hR.H (fun b hb=>hR.own b l age i hl hb) hk
   | mo sz rows=>
    cases Gc;exact fZ.V5 hR.H (fun b hb=>hR.own b l age i hl hb) hk
   | _=>
    have hA:=lT hR 4 Gc hk;cases hA<;>(simp only[fk];constructor<;>assumption)
  ·cases h
 | mp ag es=>
  cases h;obtain⟨k1,k2,xs,c,k3,k4⟩:=hb;exact⟨by rw[hB];exact hK,by rw[hB,hR.H];exact k2,xs,c,by rw[hB];exact k3,by rw[hR.H];exact k4⟩
 | rows sz rows=>
  cases h;obtain⟨k1,k2,xs,t,k3,k4,k5,k6⟩:=hb;exact⟨by rw[hB];exact hK,by rw[hB,hR.H];exact k2,xs,t,by rw[hB];exact k3,k4,k5,by rw[hR.H];exact k6⟩
 | ob o=>
  cases h;obtain⟨k1,k2,k3⟩:=hb;exact⟨by rw[hB];exact hK,by rw[hB,hR.H];exact k2,by rw[hB];exact k3⟩
def G.call(g:G)(ls:List Loc):G:=⟨g.H,fun b=>match g.K b with
  | .box l=>(match j7 ls l with | some m=> .box m | none=> .none)
  | .cw (.cell l i)=>(match j7 ls l with | some m=> .cw (.cell m i) | none=> .none)
  | _=> .none,
 fun m=>match cz ls m with | some l=>g.B l | none=>0,g.D⟩
theorem kh{ls:List Loc}{l m:Loc}(h:j7 ls l=some m):∃j,m= .ext j∧ls[j]? =some l:=by
 unfold j7 at h;split at h
 ·rename_i j hj;cases h;exact⟨j,rfl,by simpa using(Au hj).2⟩
 ·cases h
theorem Ts{ls:List Loc}{l:Loc}(h:j7 ls l=none):l∉ls:=by
 unfold j7 at h;split at h
 ·cases h
 ·rename_i hj;exact Av hj
theorem nb{ls:List Loc}(hn:ls.Nodup){l:Loc}{j:Nat}(h:ls[j]? =some l):j7 ls l=some (.ext j):=by
 unfold j7;rw[LM hn h]
theorem jf{ls:List Loc} :Tr (j7 ls) g (g.call ls) where
 H:=rfl
 box l age hl hK:=by
  obtain⟨j,rfl,hj⟩:=kh hl;refine⟨?_,?_⟩
  ·show(match cz ls (.ext j)with | some l=>g.B l | none=>0)=g.B l;rw[show cz ls (.ext j)=some l from by show fT ls j=some l;rw[eG];exact hj]
  ·simp[G.call,hK,hl]
 own b l age i hl hK:=by
  simp[G.call,hK,hl]
theorem nM{ls:List Loc}(h:eW g w):eW (g.call ls) w:=fun b hb=>by
 refine⟨(h b hb).1,?_⟩;simp[G.call,(h b hb).2]
theorem r9{ls:List Loc}(b k:Nat):(g.call ls).K b≠ .box (.own k):=by
 intro h;simp only[G.call]at h;split at h
 ·split at h
  ·rename_i m hm;cases h;obtain⟨j,e,_⟩:=kh hm;cases e
  ·cases h
 ·split at h<;>cases h
 ·cases h
theorem JO{ls:List Loc}{b:Nat}(h:∀l,l∈ls→g.K b≠ .box l∧ ∀i,g.K b≠ .cw (.cell l i)):(g.call ls).K b= .none:=by
 simp only[G.call];split
 ·rename_i l hl;split
  ·rename_i m hm;obtain⟨j,_,hj⟩:=kh hm;exact absurd hl (h l (List.mem_of_getElem? hj)).1
  ·rfl
 ·rename_i l i hl;split
  ·rename_i m hm;obtain⟨j,_,hj⟩:=kh hm;exact absurd hl ((h l (List.mem_of_getElem? hj)).2 i)
  ·rfl
 ·rfl
def xY(ls:List Loc)(d:Nat):BK→BK
 | .box m=>match cz ls m with | some l=> .box l | none=> .none
 | .cw (.cell m i)=>match cz ls m with | some l=> .cw (.cell l i) | none=> .none
 | .cw .res=> .cw (.slot d)
 | _=> .none
def G.back(g:G)(size:Nat)(ls:List Loc)(d:Nat)(g':G):G:=⟨g'.H,fun b=>match decide (b<size),(g.call ls).K b with
  | true,.none=>g.K b
  | _,_=>xY ls d (g'.K b),g.B,g.D⟩
theorem nN(hs:bR T n g0 w0 S g a w)(fE:S.aJ=false)(d:Nat){ls:List Loc}(hn:ls.Nodup)(hf:Frame (g.call ls) w g' w')(lp:eW g' w'){bs:List er}(hlen:ls.length=bs.length)
  (ri:∀(j:Nat) l,ls[j]? =some l→ ∃b,S.bx l=some b) (hB:∀j,j<ls.length→g'.B (.ext j)=(g.call ls).B (.ext j))
  (ny:∀(j:Nat) l b,ls[j]? =some l→bs[j]? =some b→ ∀g2,Tr (cz ls) g' g2→iB T g2 w' l b):
  ∃g2,bR T n g0 w0 (fW S ls bs) g2 a w'∧Tr (cz ls) g' g2∧(∀b,g'.K b= .cw .res→g2.K b= .cw (.slot d)):=by
 let g2:G:=g.back w.heap.size ls d g'
 have hKn:∀b,b<w.heap.size→(g.call ls).K b= .none→g2.K b=g.K b:=fun b hb hk=>by
  show(match decide (b<w.heap.size),(g.call ls).K b with | true,.none=>g.K b | _,_=>xY ls d (g'.K b))=g.K b;rw[hk,decide_eq_true hb]
 have hKs:∀b,¬(b<w.heap.size∧(g.call ls).K b= .none)→g2.K b=xY ls d (g'.K b):=fun b hb=>by
  show(match decide (b<w.heap.size),(g.call ls).K b with | true,.none=>g.K b | _,_=>xY ls d (g'.K b))=_;split
  ·rename_i h1 h2;exact absurd ⟨of_decide_eq_true h1,h2⟩ hb
  ·rfl
 have Zg:∀b,g'.K b≠ .none→g2.K b=xY ls d (g'.K b):=fun b hb=>hKs b (fun⟨h1,h2⟩=>hb (hf.bM b h1 h2).2.2)
 have Gc:Tr (cz ls) g' g2:= {
  H:=rfl
  box:=fun m l hl hK=>by
   cases m with
   | own k=>cases hl
   | ext j=>
    have hj:ls[j]? =some l:=by rw[←eG];exact hl
    have sZ:j<ls.length:=(List.getElem?_eq_some_iff.1 hj).1;refine⟨?_,?_⟩
    ·rw[hB j sZ];show g.B l=(match cz ls (.ext j)with | some l=>g.B l | none=>0);rw[hl]
    ·rw[Zg _ (by rw[hK];simp),hK];simp[xY,hl]
  own:=fun b m l i hl hK=>by
   rw[Zg _ (by rw[hK];simp),hK];simp[xY,hl]}
 have JP:∀b,g'.K b= .cw .res→g2.K b= .cw (.slot d):=fun b hK=>by
  rw[Zg _ (by rw[hK];simp),hK];rfl
 have hc:j8 (fun k=>∃l,l∈ls∧(k= .box l∨ ∃i,k= .cw (.cell l i))) g w g2 w':= {
  os:=hf.os
  tape:=hf.tape
  fz:=hf.fz
  output:=hf.output
  size:=hf.size
  same:=fun b hb hX=>by
   have hk:(g.call ls).K b= .none:=JO (fun l hl=>⟨fun e=>hX ⟨l,hl,.inl e⟩,fun i e=>hX ⟨l,hl,.inr ⟨i,e⟩⟩⟩);obtain⟨h1,h2,h3⟩:=hf.bM b hb hk;exact⟨h1,h2,hKn b hb hk⟩
  ge:=⟨hf.ge.ext,fun l hl=>⟨rfl,by
   have aN:g.B l<w.heap.size:=by
    rcases Nat.lt_or_ge (g.B l) w.heap.size with h | h
    ·exact h
    ·rw[(hs.fresh _ h).2]at hl;cases hl
   by_cases hm:l∈ls
   ·obtain⟨j,hj⟩:=List.getElem?_of_mem hm;obtain⟨k1,k2⟩:=(jf (g:=g) (ls:=ls)).box l _ (nb hn hj) hl;have hk3:(g.call ls).K ((g.call ls).B (.ext j))= .box (.ext j):=by rw[k1];exact k2
    obtain⟨k4,k5⟩:=hf.ge.box _ hk3;rw[k1]at k5;rw[Zg _ (by rw[k5];simp),k5];show(match cz ls (.ext j)with | some l=>BK.box l | none=> .none)=_;rw[show cz ls (.ext j)=some l from by show fT ls j=some l;rw[eG];exact hj]
   ·have hk:(g.call ls).K (g.B l)= .none:=by
     simp only[G.call,hl];split
     ·rename_i m BZ;obtain⟨j,_,hj⟩:=kh BZ;exact absurd (List.mem_of_getElem? hj) hm
     ·rfl
    rw[hKn _ aN hk];exact hl⟩⟩
  fresh:=fun b hb=>by
   obtain⟨h1,h2⟩:=lp b hb;refine⟨h1,?_⟩;have:¬b<w.heap.size:=by have:=hf.size;omega
   rw[hKs b (fun h=>this h.1),h2];rfl}
 obtain⟨e1,e2,e3⟩:=uQ ls bs S;obtain⟨e4,e5⟩:=xX ls bs S hn hlen;have hex:∀l,l∈ls→ ∃b,(fW S ls bs).bx l=some b∧iB T g2 w' l b:=fun l hl=>by
  obtain⟨j,hj⟩:=List.getElem?_of_mem hl;have sZ:j<bs.length:=by rw[←hlen];exact(List.getElem?_eq_some_iff.1 hj).1
  have hb:bs[j]? =some bs[j]:=List.getElem?_eq_getElem sZ;exact⟨_,e4 j l _ hj hb,ny j l _ hj hb g2 Gc⟩
 refine⟨g2,?_,Gc,JP⟩;exact {
  defers:=hs.defers
  size:=hs.size
  bH:=fun t=>by
   rw[e1];refine(hs.bH t).jq hc (fun⟨l,_,h⟩=>?_) (fun l he=>?_) (fun b hb=>(hs.fresh b hb).2)
   ·rcases h with h | ⟨i,h⟩<;>cases h
   ·rw[(hs.aJ t l he).1]at fE;cases fE
  boxes:=fun l b hb=>by
   by_cases hm:l∈ls
   ·obtain⟨b',h1,h2⟩:=hex l hm;rw[h1]at hb;cases hb;exact h2
   ·rw[e5 l hm]at hb;refine(hs.boxes l b hb).jq hc (fun⟨age,m5,h⟩=>?_) (fun i ⟨age,m5,h⟩=>?_)
    ·rcases h with h | ⟨i,h⟩
     ·cases h;exact hm m5
     ·cases h
    ·rcases h with h | ⟨i,h⟩
     ·cases h
     ·cases h;exact hm m5
  fresh:=hc.fresh
  dc:=fun t s sz rows h=>by rw[e1]at h;rw[e2];exact hs.dc t s sz rows h
  aJ:=fun t l h=>by
   rw[e1]at h;rw[(hs.aJ t l h).1]at fE;cases fE
  dm:=fun t sz rows=>by rw[e1];exact hs.dm t sz rows
  de:=fun t s wt v h=>by rw[e1]at h;rw[e2];exact hs.de t s wt v h
  live:=fun k hk=>by
   by_cases hm:Loc.own k∈ls
   ·obtain⟨b,h,_⟩:=hex _ hm;exact⟨b,h⟩
   ·rw[e5 _ hm];have hk:g2.K (g.B (.own k))= .box (.own k):=hk;by_cases hb:g.B (.own k)<w.heap.size∧(g.call ls).K (g.B (.own k))= .none
    ·rw[hKn _ hb.1 hb.2]at hk;exact hs.live k hk
    ·rw[hKs _ hb]at hk;exfalso;cases hq:g'.K (g.B (.own k))with
     | none=>rw[hq]at hk;cases hk
     | box m=>
      rw[hq]at hk;have hk:(match cz ls m with | some l=>BK.box l | none=> .none)= .box (.own k):=hk;split at hk
      ·rename_i l hl;cases hk;cases m with
       | own k=>cases hl
       | ext j=>
        have hl:fT ls j=some (.own k):=hl;rw[eG]at hl;exact hm (List.mem_of_getElem? hl)
      ·cases hk
     | cw q=>
      rw[hq]at hk;cases q with
      | slot s=>cases hk
      | res=>cases hk
      | cell m i=>
       have hk:(match cz ls m with | some l=>BK.cw (.cell l i) | none=> .none)= .box (.own k):=hk;split at hk<;>cases hk
  frame:=hc.frame (fun⟨l,_,h⟩=>by rcases h with h | ⟨i,h⟩<;>cases h) hs.frame}
theorem qF{v:AV}{x:Value}(h:cU g w v x):aA g w (oG v) x:=by
 cases v with
 | own sz rows=>exact .p h
 | cp q sz rows=>exact .p h
 | mo sz rows=>exact .dead _
 | vw l i sz m=>exact .dead _
 | el l i sz k o=>exact .dead _
 | _=>exact h
theorem Eb{g2:G}{r r1:AV}{x:Value}{ls:List Loc}(hR:Tr (cz ls) g' g2){d:Nat}(JP:∀b,g'.K b= .cw .res→g2.K b= .cw (.slot d))(h:lg (cz ls) 4 r=some r1)(hr:m8 g' w' r x):
  (∃sz rows,r1= .own sz rows∧dG g2 w' (.slot d) sz rows x)∨((∀sz rows,r1≠ .own sz rows)∧aA g2 w' r1 x):=by
 have gen:aA g' w' r x→(∃sz rows,r1= .own sz rows∧dG g2 w' (.slot d) sz rows x)∨((∀sz rows,r1≠ .own sz rows)∧aA g2 w' r1 x):=fun hA=>by
  have:=lT hR 4 h hA;exact .inr ⟨fun sz rows e=>by subst e;exact this.xK,this⟩
 cases r with
 | own sz rows=>cases h;exact .inl ⟨sz,rows,rfl,dG.V5 hR.H JP hr⟩
 | _=>exact gen hr
theorem HQ{o:Oper}{f:FuncId}{xs:Array Value}(cn:mL P f→(execOp a.eval o).run P w= .ok (.enter f xs) w){args agG:List AV}{ls:List Loc}(hn:ls.Nodup)(hm:fj (fun a=>lg (j7 ls) 4 (oG a)) args=some agG)(hl:args.length=xs.size)
  (hr:∀(j:Nat) u x,args[j]? =some u→xs[j]? =some x→cU g w u x) {bs zE l:List er} (ny:fj (fun l=>match S.bx l with | some b=>rP (j7 ls) b | none=>none) ls=some bs)
  (hs:bR T n g0 w0 S g a w) (fE:S.aJ=false) {r r1:AV} (hj:fA P T f agG bs r zE) (hlen:zE.length=ls.length) (zQ:lg (cz ls) 4 r=some r1) (PH:fj (rP (cz ls)) zE=some l) (d:Nat) {Q:Exit→Act→World→Prop}
  (JQ:∀x g2 w2,bR T n g0 w0 (fW S ls l) g2 a w2→((∃sz rows,r1= .own sz rows∧dG g2 w2 (.slot d) sz rows x)∨((∀sz rows,r1≠ .own sz rows)∧aA g2 w2 r1 x))→next (a.put o.dst x) w2):o.wp P a w next Q:=by
 obtain⟨cq,hj⟩:=hj;obtain⟨m1,m2⟩:=dr hm;obtain⟨b1,b2⟩:=dr ny;obtain⟨c1,c2⟩:=dr PH;have ri:∀(j:Nat) l,ls[j]? =some l→ ∃b,S.bx l=some b:=fun j l hl=>by
  have hj:j<bs.length:=by rw[b1];exact(List.getElem?_eq_some_iff.1 hl).1
  have:=b2 j l _ hl (List.getElem?_eq_getElem hj);split at this
  ·rename_i b hb;exact⟨b,hb⟩
  ·cases this
 have hc:=hj (g.call ls) w xs (nM hs.fresh) (fun b k=>r9 b k) (by omega) (fun j u x hu hx=>by
   have hj:j<args.length:=by have:=(List.getElem?_eq_some_iff.1 hu).1;omega
   have hv:args[j]? =some args[j]:=List.getElem?_eq_getElem hj;exact lT jf 4 (m2 j _ u hv hu) (qF (hr j _ x hv hx))) (fun j b hb=>by
   have hj:j<ls.length:=by have:=(List.getElem?_eq_some_iff.1 hb).1;omega
   have hv:ls[j]? =some ls[j]:=List.getElem?_eq_getElem hj;have:=b2 j _ b hv hb;split at this
   ·rename_i b0 Gd;exact kE jf (nb hn hv) this (hs.boxes _ _ Gd)
   ·cases this)
 refine B0 (R:=fun x w'=>∃g',Frame (g.call ls) w g' w'∧eW g' w'∧m8 g' w' r x∧(∀(j:Nat) b,zE[j]? =some b→iB T g' w' (.ext j) b)∧ ∀(j:Nat),j<bs.length→g'.B (.ext j)=(g.call ls).B (.ext j)) (cn cq) (hc.mono fun e w' h=>?_) (fun x w' hR=>?_)
 ·obtain⟨x,g',rfl,h1,h2,h3,h4,h5⟩:=h;exact⟨x,rfl,g',h1,h2,h3,h4,h5⟩
 ·obtain⟨g',h1,h2,h3,h4,h5⟩:=hR;obtain⟨g2,k1,k2,k3⟩:=nN (bs:=l) hs fE d hn h1 h2 (by omega) ri (fun j hj=>h5 j (by omega)) (fun j m b hm hb g2 hR=>by
   have hj:j<zE.length:=by have:=(List.getElem?_eq_some_iff.1 hb).1;omega
   have hv:zE[j]? =some zE[j]:=List.getElem?_eq_getElem hj;exact kE hR (show cz ls (.ext j)=some m by show fT ls j=some m;rw[eG];exact hm) (c2 j _ b hv hb) (h4 j _ hv))
  exact JQ x g2 w' k1 (Eb k2 k3 zQ h3)
theorem LN{ls:List Loc}(hn:ls.Nodup){bs l:List er}(ny:fj (fun l=>match S.bx l with | some b=>rP (j7 ls) b | none=>none) ls=some bs)
  (hs:bR T n g0 w0 S g a w) (fE:S.aJ=false) (PH:fj (rP (cz ls)) bs=some l):∃g2,bR T n g0 w0 (fW S ls l) g2 a w:=by
 obtain⟨b1,b2⟩:=dr ny;obtain⟨c1,c2⟩:=dr PH;have ri:∀(j:Nat) l,ls[j]? =some l→ ∃b,S.bx l=some b:=fun j l hl=>by
  have hj:j<bs.length:=by rw[b1];exact(List.getElem?_eq_some_iff.1 hl).1
  have:=b2 j l _ hl (List.getElem?_eq_getElem hj);split at this
  ·rename_i b hb;exact⟨b,hb⟩
  ·cases this
 have pH:∀(j:Nat) b,bs[j]? =some b→iB T (g.call ls) w (.ext j) b:=fun j b hb=>by
  have hj:j<ls.length:=by have:=(List.getElem?_eq_some_iff.1 hb).1;omega
  have hv:ls[j]? =some ls[j]:=List.getElem?_eq_getElem hj;have:=b2 j _ b hv hb;split at this
  ·rename_i b0 Gd;exact kE jf (nb hn hv) this (hs.boxes _ _ Gd)
  ·cases this
 have hf:Frame (g.call ls) w (g.call ls) w:=⟨rfl,rfl,rfl,Nat.le_refl _,fun b hb hk=>⟨rfl,rfl,hk⟩,.refl _ _,fun _ _=>rfl⟩;obtain⟨g2,k1,_⟩:=nN (bs:=l) (w':=w) hs fE 0 hn hf (nM hs.fresh) (by omega) ri (fun j hj=>rfl) (fun j m b hm hb g2 hR=>by
   have hj:j<bs.length:=by have:=(List.getElem?_eq_some_iff.1 hb).1;omega
   have hv:bs[j]? =some bs[j]:=List.getElem?_eq_getElem hj;exact kE hR (show cz ls (.ext j)=some m by show fT ls j=some m;rw[eG];exact hm) (c2 j _ b hv hb) (pH j _ hv))
 exact⟨g2,k1⟩
end
theorem Aw{a b:PV}(h:pn a b=some true):a=b:=by
 cases a<;>cases b<;>simp[pn]at h
 all_goals first | (obtain⟨rfl,rfl⟩:=h;rfl) | (subst h;rfl)
theorem tw:∀ {a b:List PV},bL a b=some true→a=b
 | [],[],_=>rfl
 | [],_::_,h=>by cases h
 | [_],[],h=>by cases h
 | [a],[b],h=>by
  have h:pn a b=some true:=h;rw[Aw h]
 | [_],_::_::_,h=>by cases h
 | _::_::_,[],h=>by cases h
 | _::_::_,[_],h=>by cases h
 | a::c::l,b::d::m,h=>by
  unfold bL at h;split at h
  ·rename_i x hx;split at h
   ·rename_i y hy;simp only[Option.some.injEq,Bool.and_eq_true]at h;obtain⟨rfl,rfl⟩:=h;rw[Aw hx,tw hy]
   ·cases h
  ·cases h
def sa:PV→Bool
 | .int _ _=>true
 | .bool _=>true
 | .str _=>true
 | _=>false
theorem Ax{a b:PV}{r:Bool}(h:pn a b=some r):sa a=true:=by
 cases a<;>cases b<;>first | rfl | cases h
theorem tx:∀ {a b:List PV} {r:Bool},bL a b=some r→ ∀c∈a,sa c=true
 | [],[],_,_=>by simp
 | [],_::_,_,h=>by cases h
 | [_],[],_,h=>by cases h
 | [a],[b],r,h=>by
  have h:pn a b=some r:=h;intro c hc;simp only[List.mem_singleton]at hc;subst hc;exact Ax h
 | [_],_::_::_,_,h=>by cases h
 | _::_::_,[],_,h=>by cases h
 | _::_::_,[_],_,h=>by cases h
 | a::c::l,b::d::m,r,h=>by
  unfold bL at h;split at h
  ·rename_i x hx;split at h
   ·rename_i y hy;intro e he;rcases List.mem_cons.1 he with rfl | he
    ·exact Ax hx
    ·exact tx hy e he
   ·cases h
  ·cases h
theorem JR{w w':World}{H agk:Nat→Nat}{c:PV}{x y:Value}(hl:sa c=true)(hx:cK w H c x)(hy:cK w' agk c y):x=y:=by
 cases hx<;>first | (cases hy;rfl) | cases hl
theorem JS{w:World}{H:Nat→Nat}{c:PV}{x:Value}(hl:sa c=true)(hx:cK w H c x)(n:Nat):Instr.sameBits n x x=true:=by
 cases hx with
 | bool b=>simp[Instr.sameBits]
 | int k m=>simp[Instr.sameBits]
 | str l=>simp only[Instr.sameBits];exact((MapKept.bytes_beq _) _).2 rfl
 | nil=>cases hl
 | sl=>cases hl
theorem LO{w:World}{H:Nat→Nat}{k:List PV}{xs ys:Array Value}(hl:∀c∈k,sa c=true)(hx:dg w H k xs.toList)(hy:dg w H k ys.toList):xs=ys:=by
 apply Array.ext';apply List.ext_getElem?;intro j;by_cases hj:j<k.length
 ·have h1:xs.toList[j]? =some (xs.toList[j]'(by rw[←hx.1];exact hj)):=List.getElem?_eq_getElem _;have h2:ys.toList[j]? =some (ys.toList[j]'(by rw[←hy.1];exact hj)):=List.getElem?_eq_getElem _;have hk:k[j]? =some k[j]:=List.getElem?_eq_getElem hj;rw[h1,h2,JR (hl _ (List.getElem_mem hj)) (hx.2 j _ _ hk h1) (hy.2 j _ _ hk h2)]
 ·rw[List.getElem?_eq_none (by rw[←hx.1];omega),List.getElem?_eq_none (by rw[←hy.1];omega)]
theorem LP{w:World}{H:Nat→Nat}{k:List PV}{xs:Array Value}(hl:∀c∈k,sa c=true)(hx:dg w H k xs.toList)(n:Nat):Instr.sameBits (n+1) (.agg xs) (.agg xs)=true:=by
 unfold Instr.sameBits;simp only[beq_self_eq_true,Bool.true_and,List.all_eq_true];intro p hp;obtain⟨j,hj,rfl⟩:=List.getElem_of_mem hp;simp only[List.length_zip,Nat.min_self]at hj;simp only[List.getElem_zip];have h1:xs.toList[j]? =some (xs.toList[j]'hj):=List.getElem?_eq_getElem _;have hk:k[j]? =some (k[j]'(by rw[hx.1];exact hj)):=List.getElem?_eq_getElem _;exact JS (hl _ (List.getElem_mem _)) (hx.2 j _ _ hk h1) n
def uR(k:List PV):List (List PV×List PV)→Option Nat
 | []=>none
 | e::r=>match bL k e.1 with
  | some true=>some 0
  | _=>(uR k r).map (· +1)
theorem uS{k:List PV} :∀ {es:List (List PV×List PV)} {j:Nat},uR k es=some j→ ∃e,es[j]? =some e∧e.1=k∧dS k es=some e.2∧ ∀v,o6 k v es=es.set j (k,v)
 | [],j,h=>by cases h
 | e::r,j,h=>by
  have rest:(∀v:Unit,bL k e.1≠some true)→ ∃agm,(e::r)[j]? =some agm∧agm.1=k∧dS k (e::r)=some agm.2∧ ∀v,o6 k v (e::r)=(e::r).set j (k,v):=fun dA=>by
   unfold uR at h;split at h
   ·rename_i he;exact absurd he (dA ())
   ·obtain⟨i,hi,rfl⟩:=Option.map_eq_some_iff.1 h;obtain⟨agm,h1,h2,h3,h4⟩:=uS hi;refine⟨agm,by simpa using h1,h2,?_,fun v=>?_⟩
    ·unfold dS;split
     ·rename_i he;exact absurd he (dA ())
     ·exact h3
    ·unfold o6;split
     ·rename_i he;exact absurd he (dA ())
     ·rw[h4 v];rfl
  by_cases he:bL k e.1=some true
  ·have h:(match bL k e.1 with | some true=>some 0 | _=>(uR k r).map (· +1))=some j:=h;rw[he]at h;cases h;exact⟨e,rfl,(tw he).symm,by simp only[dS,he],fun v=>by simp only[o6,he];rfl⟩
  ·exact rest (fun _=>he)
theorem uT{k:List PV} :∀ {es:List (List PV×List PV)},uR k es=none→dS k es=none∧ ∀v,o6 k v es=es++ [(k,v)]
 | [],h=>⟨rfl,fun _=>rfl⟩
 | e::r,h=>by
  unfold uR at h;split at h
  ·cases h
  ·rename_i dA;obtain⟨h3,h4⟩:=uT (Option.map_eq_none_iff.1 h);refine⟨?_,fun v=>?_⟩
   ·unfold dS;split
    ·rename_i he;exact absurd he dA
    ·exact h3
   ·unfold o6;split
    ·rename_i he;exact absurd he dA
    ·rw[h4 v];rfl
section
variable {P:Program} {T:TE} {n:Nat} {g0 g g':G} {w0 w w':World} {S:St} {a:Act} {next:Act→World→Prop} {K:St→Prop}
theorem pO(hT:bw P T){kt:TypeId}{k:List PV}{ks:Array Value}{ag:Bool}(hc:T.cmp kt k=true)(hk:dg w g.H k ks.toList):∀(es:List (List PV×List PV)) (xs:List MapEntry) (i:Nat),gP k es→wS w g.H ag es xs→
  (uR k es=none∧(Instr.findAsking kt (.agg ks) xs i).run P w= .ok none w)∨ ∃j x,uR k es=some j∧xs[j]? =some x∧(Instr.findAsking kt (.agg ks) xs i).run P w= .ok (some (i+j,x.val)) w
 | [],[],i,_,_=> .inl ⟨rfl,by simp[Instr.findAsking]⟩
 | [],_::_,_,_,h=>by have:=h.1;simp at this
 | _::_,[],_,_,h=>by have:=h.1;simp at this
 | e::es,x::xs,i,ha,h=>by
  obtain⟨b,hb⟩:=ha e List.mem_cons_self;obtain⟨⟨ys,PI,Ge⟩,_⟩:=h.2 0 e x rfl rfl;have heq:=(hT.eq kt k hc w g.H e.1 ks ys b hk Ge hb).2;have cn:(Op.equal kt (.agg ks) x.key).run P w= .ok b w:=by rw[PI];exact heq
  cases b with
  | true=>
   right;refine⟨0,x,by simp only[uR,hb],rfl,?_⟩;simp[Instr.findAsking,cn]
  | false=>
   have agl:wS w g.H ag es xs:=⟨by have:=h.1;simpa using this,fun j y z hy hz=>h.2 (j+1) y z (by simpa using hy) (by simpa using hz)⟩;rcases pO hT hc hk es xs (i+1) (fun e he=>ha e (List.mem_cons_of_mem _ he)) agl with⟨h1,h2⟩ | ⟨j,y,h1,h2,h3⟩
   ·left;refine⟨by simp only[uR,hb,h1];rfl,?_⟩;simp[Instr.findAsking,cn,h2]
   ·right;refine⟨j+1,y,by simp only[uR,hb,h1];rfl,by simpa using h2,?_⟩;simp only[Instr.findAsking,Sem.run_bind,cn,Result.andThen_ok,Bool.false_eq_true,if_false,h3];congr 3;omega
theorem vU(hT:bw P T){t:TypeId}(h:T.flat t=true):∃gs:Array Field,P.underlying t=some (.struct gs)∧ ∀f∈gs.toList,f.offset<T.size t∧(∃i,T f.type=some i)∧T.isAgg f.type=false∧ ∃d,P.underlying f.type=some d∧(∃k,d= .int k)∨P.underlying f.type=some .bool∨P.underlying f.type=some .string:=by
 unfold TE.flat at h;split at h
 ·rename_i fs s _ _ _ ht;obtain⟨gs,hu,he⟩:=kd hT ht;refine⟨gs,hu,fun f hf=>?_⟩;have hm:(f.offset,f.type)∈fs:=by rw[he];exact List.mem_map.2 ⟨f,hf,rfl⟩
  have:=List.all_eq_true.1 h _ hm;rw[Bool.and_eq_true]at this;obtain⟨h1,h2⟩:=this;have aN:f.offset<s:=Nat.le_of_ble_eq_true h1;have dZ:T.size t=s:=by simp[TE.size,ht]
  refine⟨by rw[dZ];exact aN,?_⟩;simp only at h2;split at h2
  ·rename_i hh;exact⟨⟨_,hh⟩,by simp[TE.isAgg,hh],_,.inl ⟨qz hT hh,_,rfl⟩⟩
  ·rename_i hh;obtain⟨d,hd,hm⟩:=hT.Jz _ _ hh;cases d<;>simp[kY]at hm
   exact⟨⟨_,hh⟩,by simp[TE.isAgg,hh],.bool,.inr (.inl hd)⟩
  ·rename_i hh;obtain⟨d,hd,hm⟩:=hT.Jz _ _ hh;cases d<;>simp[kY]at hm
   exact⟨⟨_,hh⟩,by simp[TE.isAgg,hh],.bool,.inr (.inr hd)⟩
  ·cases h2
 ·cases h
theorem tz(hT:bw P T){kt:TypeId}(hf:T.flat kt=true){ks:Array Value}(hl:ks.size=T.size kt)(em:Bool):(Instr.checkKey em 10000 kt (.agg ks)).run P w= .ok () w:=by
 obtain⟨gs,hu,hg⟩:=vU hT hf;rw[show(10000:Nat)=9999+1 from rfl,Instr.checkKey];simp only[Sem.run_bind,bl hu,Result.andThen_ok];rw[←Array.forIn_toList];generalize gs.toList=L at hg;induction L with
 | nil=>simp
 | cons f L ih=>
  obtain⟨h1,⟨i,hi⟩,h2,d,h3⟩:=hg f List.mem_cons_self;have hp:(part f.type ks f.offset).run P w= .ok (ks[f.offset]'(by omega)) w:=by
   unfold part;rw[Sem.run_bind,iC hT hi,h2];simp only[Result.andThen_ok,Bool.false_eq_true,if_false];rw[Array.getElem?_eq_getElem (by omega)];simp
  have hc:∀v,(Instr.checkKey em 9999 f.type v).run P w= .ok () w:=fun v=>by
   rw[show(9999:Nat)=9998+1 from rfl,Instr.checkKey];rcases h3 with⟨hd,k,rfl⟩ | hd | hd<;>simp only[Sem.run_bind,bl hd,Result.andThen_ok]<;>cases v<;>simp
  have ih:=ih (fun f hf=>hg f (List.mem_cons_of_mem _ hf));by_cases hn:f.name= "_"
  ·simp only[List.forIn_cons,Sem.run_bind,hn,ne_eq,not_true_eq_false,if_false,Sem.run_pure,Result.andThen_ok];simpa using ih
  ·simp only[List.forIn_cons,Sem.run_bind,hn,ne_eq,not_false_eq_true,if_true,hp,hc,Sem.run_pure,Result.andThen_ok];simpa using ih
theorem vV(hT:bw P T){kt:TypeId}{k:List PV}{ks:Array Value}{ag:Bool}(hf:T.flat kt=true)(hc:T.cmp kt k=true)(hk:dg w g.H k ks.toList){es:List (List PV×List PV)}{xs:List MapEntry}(ha:gP k es)(hE:wS w g.H ag es xs):
  (uR k es=none∧(Instr.findKey kt (.agg ks) xs).run P w= .ok none w)∨ ∃j x,uR k es=some j∧xs[j]? =some x∧(Instr.findKey kt (.agg ks) xs).run P w= .ok (some (j,x.val)) w:=by
 obtain⟨gs,hu,_⟩:=vU hT hf;unfold Instr.findKey;simp only[Sem.run_bind,bl hu,Result.andThen_ok];cases xs with
 | nil=>
  cases es with
  | nil=>exact .inl ⟨rfl,by simp[Instr.findNow]⟩
  | cons=>have:=hE.1;simp at this
 | cons x xs=>
  have e:Instr.findNow (.struct gs) (.agg ks) (x::xs) 0=none:=by simp[Instr.findNow,Instr.sameNow]
  rw[e];simp only;rcases pO hT hc hk es (x::xs) 0 ha hE with h | ⟨j,y,h1,h2,h3⟩
  ·exact .inl h
  ·exact .inr ⟨j,y,h1,h2,by rw[h3];simp⟩
theorem Ay(hT:bw P T){t kt et:TypeId}(h:T.mapOf t=some (kt,et)):P.underlying t=some (.map kt et):=by
 unfold TE.mapOf at h;split at h
 ·rename_i hh;cases h;obtain⟨d,hd,hm⟩:=hT.Jz _ _ hh;cases d<;>simp[kY]at hm
  obtain⟨rfl,rfl⟩:=hm;exact hd
 ·cases h
 ·cases h
theorem Az(hT:bw P T){t:TypeId}{z:List PV}(h:T.sT t=some z):∃v,(zeroValue t).run P w= .ok v w∧dg w g.H z v.cells.toList∧aA g w (DP T t z) v:=by
 unfold TE.sT at h;split at h
 ·rename_i i hi;obtain⟨ti,v,h1,h2,h3,h4,h5,h6,h7⟩:=hT.info t i hi;have hC:=pG h7 h g w;refine⟨v,by simp[zeroValue,typeInfo,h1,h5],hC,?_⟩;have hz:=hT.zag t i ti v hi h1 h5;unfold DP;cases dJ:T.isAgg t with
  | true=>
   rw[dJ]at hz;cases v<;>simp[Pt]at hz
   exact .agg hC
  | false=>
   rw[dJ]at hz;have hv:v.cells= #[v]:=by cases v<;>first | rfl | simp[Pt]at hz
   rw[hv]at hC;have hl:=hC.1;simp only[cond_false];cases z with
   | nil=>simp at hl
   | cons c r=>
    have:r= []:=List.eq_nil_of_length_eq_zero (by simpa using hl);subst this;exact .p (hC.2 0 c v rfl rfl)
 ·cases h
end
end Go.Hm
