/- Part 6 of the proof: an abstract machine for the program, its soundness, contracts of functions, and the plain law; no conditions. -/
import Derived.Test.YtnmohbeakccnkaaGreatA5
set_option linter.all false
set_option maxRecDepth 512
namespace Go.Hm
def Cw(T:TE)(J:uF)(Y:YJ)(ops:List Oper)(apps:List Nat):List Oper→St→(St→Prop)→Prop
 | [],S,K=>K S
 | o::r,S,K=>MH T J Y ops apps o S fun S=>Cw T J Y ops apps r S K
def Cx(ps:List Nat)(ys:List AV)(ts:List Nat)(vs:List AV)(bs:List er):St:=St.mk' (ps.zip ys++ts.zip vs) (Lp bs 0)
def T4(S:St)(m:Nat):Option (List er):=fj (fun j=>S.bx (.ext j)) (List.range m)
def GP(wa wb:St→(Ex→St→Prop)→Prop)(ps ts:List Nat)(vs:List AV)(o oB:Obj)(y:List AV)(B:List er)(se:Ex)(agx:List er):Prop:=
 y.length=ps.length∧wa (Cx ps y ts vs (.ob o::B)) fun e S=>match e with
  | .normal=>match S.aJ,S.bx (.ext 0)with
   | false,some (.ob agq)=>agq=o∧wb (S.bK (.ext 0) (.ob oB)) fun e S=>e=se∧match S.aJ,T4 S (B.length+1)with
    | false,some bs=>bs= .ob oB::agx
    | _,_=>False
   | _,_=>False
  | _=>False
def MN(T:TE)(J:uF)(Y:YJ)(wa wb:St→(Ex→St→Prop)→Prop)(Le:Operand)(ps:List Nat)(S:St)(Q:Ex→St→Prop):Prop:=
 match S.aJ with
 | true=>False
 | false=>match bO T S [] 0 Le with
  | .fn f [] xy=>∃(k0:Nat) (ts:List Nat) (se:Option Ex),match S.bx (.own k0)with
   | some _=>False
   | none=>∀(xs:List Value) (o oB oS oX:Obj),
    rQ (ts.map fun t=>oG (bO T S [] 0 (.tmp t))) fun vs0=>rQ (.yl (.own k0) vs0 xs::xy) fun args=>
    rR (sQ [] (args.flatMap (kX 3))) fun l0=>xC (S.bK (.own k0) (.ob o)) 3 l0 fun iY=>
    match fj (fun a=>lg (j7 iY) 4 (oG a)) args,fj (fun l=>match(S.bK (.own k0) (.ob o)).bx l with | some b=>rP (j7 iY) b | none=>none) iY with
    | some (.yl (.ext 0) vs _::agG),some (.ob _::bs)=>∃(N:Nat) (ys:Nat→List AV) (Bx:Nat→List er),bs=Bx 0∧(∀k,(Bx k).length=bs.length)∧
      (∀k,k<N→GP wa wb ps ts vs o oB (ys k) (Bx k) .normal (Bx (k+1)))∧
      match se with
      | none=>(∃r,(∀k,k<N→Y (.yl (.ext 0) vs xs::ys k) (.ob o::Bx k) (.p (.bool true)) (.ob o::Bx (k+1)))→J f (.yl (.ext 0) vs xs::agG) (.ob o::Bx 0) r (.ob o::Bx N)∧(match lg (cz iY) 4 r with | some _=>True | none=>False))∧
       match fj (rP (cz iY)) (.ob o::Bx N)with
       | some l=>Q .normal ((fW (S.bK (.own k0) (.ob o)) iY l).bK (.own k0) (.ob oX))
       | none=>False
      | some e=>∃BS:List er,BS.length=bs.length∧GP wa wb ps ts vs o oB (ys N) (Bx N) e BS∧
       (∃r,(∀k,k<N→Y (.yl (.ext 0) vs xs::ys k) (.ob o::Bx k) (.p (.bool true)) (.ob o::Bx (k+1)))→Y (.yl (.ext 0) vs xs::ys N) (.ob o::Bx N) (.p (.bool false)) (.ob oS::BS)→
        J f (.yl (.ext 0) vs xs::agG) (.ob o::Bx 0) r (.ob oS::BS)∧(match lg (cz iY) 4 r with | some _=>True | none=>False))∧
       match e,fj (rP (cz iY)) (.ob oS::BS)with
       | .normal,_=>False
       | e,some l=>Q e ((fW (S.bK (.own k0) (.ob o)) iY l).bK (.own k0) (.ob oX))
       | _,none=>False
    | _,_=>False
  | _=>False
def nA(T:TE)(J:uF)(Y:YJ):Code→St→(Ex→St→Prop)→Prop
 | .skip,S,Q=>Q .normal S
 | .region _ ops draw,S,Q=>match draw with
  | false=>Cw T J Y ops.toList (eZ ops.toList) ops.toList S (re ops.toList (eZ ops.toList) (Q .normal))
  | true=>Cu T J ops.toList S (Q .normal)
 | .seq a b,S,Q=>nA T J Y a S fun e S=>match e with
  | .normal=>nA T J Y b S Q
  | .exit id=>Q (.exit id) S
  | .ret=>Q .ret S
 | .cond c a b,S,Q=>match bO T S [] 0 c with
  | .p (.bool t)=>(t=true→nA T J Y a S Q)∧(t=false→nA T J Y b S Q)
  | _=>False
 | .block id c,S,Q=>nA T J Y c S fun e S=>match e with
  | .normal=>Q .normal S
  | .exit qy=>bif Nat.beq qy id then Q .normal S else Q (.exit qy) S
  | .ret=>Q .ret S
 | .loop c,S,Q=>∃(ts:List Nat) (ls:List Loc) (I:Nat→St→Prop),(∃n,I n (S.bM ts ls))∧
   ∀n agj,I n agj→nA T J Y c agj fun e S9=>match e with
    | .normal=>∃m,m<n∧I m (S9.bM ts ls)
    | .exit id=>Q (.exit id) S9
    | .ret=>Q .ret S9
 | .label _,S,Q=>Q .normal S
 | .exit id,S,Q=>Q (.exit id) S
 | .ret,S,Q=>Q .ret S
 | .rangeFunc g ps x y,S,Q=>MN T J Y (nA T J Y x) (nA T J Y y) g ps.toList S Q
 | _,_,_=>False
def yC:List Nat→Bool
 | []=>true
 | a::r=> !wQ r a&&yC r
def eI(n:Nat):Bool→Code→Bool
 | _,.skip=>true
 | _,.region _ ops _=>gU n ops.toList&&lY ops.toList
 | f,.seq a b=>eI n f a&&eI n f b
 | f,.cond _ a b=>eI n f a&&eI n f b
 | f,.block _ c=>eI n f c
 | f,.loop c=>eI n f c
 | _,.label _=>true
 | _,.exit _=>true
 | _,.ret=>true
 | f,.rangeFunc _ ps a b=>f&&(ps.toList.all (fun p=>Nat.blt p n)&&(yC ps.toList&&(eI n false a&&eI n false b)))
 | _,_=>false
section
variable {P:Program} {T:TE} {n:Nat} {g0 g g':G} {w0 w w':World} {S:St} {a:Act} {next:Act→World→Prop} {K:St→Prop} {F:Fence}
def G.jR(g:G)(D:List Deferred):G:=⟨g.H,g.K,g.B,D⟩
def Marks(w0:World)(g:G)(w:World)(D:List Deferred):Prop:=
 ∀d∈D,∃r,d.target= .collected r∧w0.heap.size≤r∧w.heap[r]? =some (.deferred (some []))∧g.K r= .none∧D.Pairwise (fun x y=>x.target≠y.target)
theorem qa{g1:G}{w1:World}{D:List Deferred}(h:Frame g0 w0 g1 w1)(k:Frame (g1.jR D) w1 g w):Frame g0 w0 g w where
 os:=k.os.trans h.os
 tape:=k.tape.trans h.tape
 output:=k.output.trans h.output
 size:=Nat.le_trans h.size k.size
 bM b hb hk:=by
  obtain⟨h1,h2,h3⟩:=h.bM b hb hk;obtain⟨k1,k2,k3⟩:=k.bM b (Nat.lt_of_lt_of_le hb h.size) h3;exact⟨k1.trans h1,k2.trans h2,k3⟩
 ge:=⟨h.ge.ext.trans k.ge.ext,(h.ge.trans ⟨k.ge.ext,k.ge.box⟩).box⟩
 fz a ha:=(k.fz a (Nat.lt_of_lt_of_le ha h.size)).trans (h.fz a ha)
theorem bR.Cy(hs:bR T n g0 w0 S g a w):bR T n (g.jR g0.D) w S g a w where
 defers:=hs.defers
 size:=hs.size
 bH:=hs.bH
 boxes:=hs.boxes
 fresh:=hs.fresh
 dc:=hs.dc
 aJ:=hs.aJ
 dm:=hs.dm
 de:=hs.de
 live:=hs.live
 frame:=⟨rfl,rfl,rfl,Nat.le_refl _,fun b hb hk=>⟨rfl,rfl,hk⟩,⟨.refl _ _,fun _ h=>⟨rfl,h⟩⟩,fun _ _=>rfl⟩
theorem bR.MO{g1:G}{w1:World}{D:List Deferred}(h:Frame g0 w0 g1 w1)(hs:bR T n (g1.jR D) w1 S g a w):bR T n (g0.jR D) w0 S g a w where
 defers:=hs.defers
 size:=hs.size
 bH:=hs.bH
 boxes:=hs.boxes
 fresh:=hs.fresh
 dc:=hs.dc
 aJ:=hs.aJ
 dm:=hs.dm
 de:=hs.de
 live:=hs.live
 frame:=by
  have:=qa h hs.frame;exact⟨this.os,this.tape,this.output,this.size,this.bM,⟨this.ge.ext,this.ge.box⟩,this.fz⟩
theorem Zt(g:G):g.jR g.D=g:=rfl
theorem nY{g1:G}{w1:World}{D agD:List Deferred}(h:Marks w0 g1 w1 D)(hf:Frame (g1.jR agD) w1 g w):Marks w0 g w D:=fun d hd=>by
 obtain⟨r,h1,h2,h3,h4,h5⟩:=h d hd;obtain⟨k1,k2,k3⟩:=hf.bM r (bJ h3) h4;exact⟨r,h1,h2,k1.trans h3,k3,h5⟩
theorem tT(hF:F.plain=Fence.wide)(hT:bw P T){ops:Array Oper}(cq:gU n ops.toList=true)(rv:lY ops.toList=true){apps:List Nat}{Kn:Act→World→Prop} :∀(σ:List Nat) (l:List Oper),l.length=σ.length→(∀(j i:Nat),σ[j]? =some i→ ∃o,ops[i]? =some o∧l[j]? =some o)→
  ∀(S:St) (g:G) (a:Act) (w:World) (K:St→Prop),bR T n g0 w0 S g a w→Cw T (fA P T) (oR P T) ops.toList apps l S K→Rest T n g0 w0 K Kn→wpOpsIn F 0 P ops (QN Kn) σ a w
 | [],l,hl,hi,S,g,a,w,K,hs,h,hn=>by
  cases l with
  | nil=>exact hn S g a w h hs
  | cons p r=>simp at hl
 | i::σ,l,hl,hi,S,g,a,w,K,hs,h,hn=>by
  cases l with
  | nil=>simp at hl
  | cons p r=>
   obtain⟨o,ho,hp⟩:=hi 0 i rfl;simp only[List.getElem?_cons_zero,Option.some.injEq]at hp;subst hp;unfold Cw at h;have m5:ops.toList[i]? =some p:=by rw[Array.getElem?_toList];exact ho
   obtain⟨k1,k2⟩:=EH (Q:=QN Kn) (next:=wpOpsIn F 0 P ops (QN Kn) σ) hF hT hs (pR cq m5) (nW rv m5) h (fun agj g' agd w' hK gu=>tT hF hT cq rv σ r (by simpa using hl) (fun j i hj=>by
    have:=hi (j+1) i (by simpa using hj);simpa using this) agj g' agd w' K gu hK hn)
   unfold wpOpsIn;rw[ho];simp only;split
   ·rename_i hw;exact k1 hw
   ·rename_i hw;exact⟨fun f _=>tP hF f,k2 (by simpa using hw)⟩
theorem z3(hF:F.plain=Fence.wide)(hT:bw P T)(o7:P.follows .mixedOrders=true){J:Unit}{id:Nat}{ops:Array Oper}{draw:Bool}(cq:(gU n ops.toList&&lY ops.toList)=true)(hs:bR T n g0 w0 S g a w){AQ:Ex→St→Prop}(h:nA T (fA P T) (oR P T) (.region id ops draw) S AQ){Kn:Act→World→Prop}(hn:Rest T n g0 w0 (AQ .normal) Kn):
  (Code.region id ops draw).wpIn F 0 P (QN Kn) a w:=by
 rw[Bool.and_eq_true]at cq;obtain⟨cq,rv⟩:=cq;cases draw with
 | false=>
  refine wpIn_region ?_;refine tT hF hT cq rv _ _ ?_ ?_ S g a w _ hs h (fun agj g' agd w' hK gu=>sf gu hK hn)
  ·simp
  ·intro j i hj;have Gp:j=i∧j<ops.size:=by
    rw[List.getElem?_eq_some_iff]at hj;obtain⟨h1,h2⟩:=hj;simp at h1 h2;exact⟨h2,h1⟩
   obtain⟨rfl,aN⟩:=Gp;have ho:ops[j]? =some ops[j]:=Array.getElem?_eq_getElem aN;exact⟨_,ho,by rw[Array.getElem?_toList];exact ho⟩
 | true=>
  refine wpIn_region_any o7 ?_;exact Cr hF rv _ _ _ _ (T3 hT cq hs h hn)
theorem Cz{c:Code}{Q:Exit→Act→World→Prop}{I:Nat→Act→World→Prop}(h0:∃k,I k a w)(h:∀k a w,I k a w→c.wpIn F 0 P (Exit.then (fun a w=>∃m,m<k∧I m a w) Q) a w):(Code.loop c).wpIn F 0 P Q a w:=by
 classical
 let μ:Act→World→Nat:=fun a w=>if h:∃k,I k a w then(least h).choose else 0
 have Xl:∀a w (h:∃k,I k a w),I (μ a w) a w∧ ∀m,I m a w→μ a w≤m:=fun a w h=>by
  show I (if h:∃k,I k a w then(least h).choose else 0) a w∧ ∀m,I m a w→(if h:∃k,I k a w then(least h).choose else 0)≤m
  rw[dif_pos h];exact(least h).choose_spec
 refine wpIn_loop (fun a w=>∃k,I k a w) μ h0 (fun a w hI=>?_);refine wpIn_mono (h (μ a w) a w (Xl a w hI).1) (fun e agd w' hq=>?_);cases e with
 | normal=>
  obtain⟨m,hm,Mq⟩:=hq;exact⟨⟨m,Mq⟩,Nat.lt_of_le_of_lt ((Xl agd w' ⟨m,Mq⟩).2 m Mq) hm⟩
 | _=>exact hq
theorem H8(tmps:Array Value)(p t:Nat)(x:Value)(h:p<tmps.size):(tmps.setIfInBounds p x).getD t undef=if p=t then x else tmps.getD t undef:=DS tmps p t x h
theorem yD(t:Nat){E:List (Nat×AV)} :∀(ps:List Nat) (y:List AV) (xs:List Value) (tmps:Array Value),y.length=ps.length→xs.length=ps.length→(∀p∈ps,p<tmps.size)→yC ps=true→(∀(j:Nat) u x,y[j]? =some u→xs[j]? =some x→aA g w u x)→
  aA g w (mkGet E t) (tmps.getD t undef)→aA g w (mkGet (ps.zip y++E) t) (((ps.zip xs).foldl (fun t p=>t.setIfInBounds p.1 p.2) tmps).getD t undef)
 | [],y,xs,tmps,h1,h2,h3,h4,h5,h6=>h6
 | p::ps,[],xs,tmps,h1,h2,h3,h4,h5,h6=>by simp at h1
 | p::ps,u::y,[],tmps,h1,h2,h3,h4,h5,h6=>by simp at h2
 | p::ps,u::y,x::xs,tmps,h1,h2,h3,h4,h5,h6=>by
  unfold yC at h4;rw[Bool.and_eq_true]at h4;have hp:=h3 p (by simp);show aA g w (bif Nat.beq p t then u else mkGet (ps.zip y++E) t) (((ps.zip xs).foldl (fun t p=>t.setIfInBounds p.1 p.2) (tmps.setIfInBounds p x)).getD t undef);cases hb:Nat.beq p t with
  | true=>
   have:=beq_true.1 hb;subst this;have TB:∀(l:List (Nat×Value)) (A:Array Value),(∀q∈l,q.1≠p)→(l.foldl (fun t p=>t.setIfInBounds p.1 p.2) A).getD p undef=A.getD p undef:=by
    intro l;induction l with
    | nil=>intro A _;rfl
    | cons q l ih=>
     intro A hq;rw[List.foldl_cons,ih _ (fun q' h=>hq q' (by simp[h]))];have:=hq q (by simp);rw[Array.getD_eq_getD_getElem?,Array.getD_eq_getD_getElem?,Array.getElem?_setIfInBounds_ne this]
   rw[TB _ _ (fun q hq=>by
    have hq1:=(List.of_mem_zip hq).1;intro e;subst e;have hm:wQ ps q.1=false:=by simpa using h4.1
    have MP:∀(l:List Nat),q.1∈l→wQ l q.1=true:=by
     intro l;induction l with
     | nil=>simp
     | cons c l ih=>
      intro hc;unfold wQ;cases Zu:Nat.beq c q.1 with
      | true=>rfl
      | false=>
       rw[List.mem_cons]at hc;rcases hc with hc | hc
       ·rw[hc,Nat.beq_refl]at Zu;cases Zu
       ·exact ih hc
    rw[MP ps hq1]at hm;cases hm),H8 _ _ _ _ hp,if_pos rfl]
   exact h5 0 u x rfl rfl
  | false=>
   have dA:=beq_false.1 hb;exact yD t ps y xs (tmps.setIfInBounds p x) (by simpa using h1) (by simpa using h2) (fun q hq=>by simpa using h3 q (by simp[hq])) h4.2 (fun j u x h1 h2=>h5 (j+1) u x (by simpa using h1) (by simpa using h2)) (by rw[H8 _ _ _ _ hp,if_neg dA];exact h6)
theorem EK(t:Nat)(tmps:Array Value):∀(ts:List Nat) (vs:List AV),(∀(j:Nat) u x,vs[j]? =some u→(ts.map fun t=>tmps.getD t undef)[j]? =some x→aA g w u x)→aA g w (mkGet (ts.zip vs) t) (tmps.getD t undef)
 | [],vs,h=>aA.dead _
 | s::ts,[],h=>aA.dead _
 | s::ts,u::vs,h=>by
  show aA g w (bif Nat.beq s t then u else mkGet (ts.zip vs) t) _;cases hb:Nat.beq s t with
  | true=>
   have:=beq_true.1 hb;subst this;exact h 0 u _ rfl rfl
  | false=>exact EK t tmps ts vs (fun j u x h1 h2=>h (j+1) u x (by simpa using h1) (by simpa using h2))
theorem GQ(l:List (Nat×Value)):∀(tmps:Array Value),(l.foldl (fun t p=>t.setIfInBounds p.1 p.2) tmps).size=tmps.size:=by
 induction l with
 | nil=>intro _;rfl
 | cons p l ih=>intro tmps;rw[List.foldl_cons,ih];simp
theorem sq{b:Nat}{r:Loop}(h:w.heap[b]? =some (.loop r))(agf:Loop):HR w b (.loop agf) (w.putObj b (.loop agf)) where
 os:=rfl
 tape:=rfl
 output:=rfl
 size:=by simp
 block:=World.putObj_heap_same (bJ h)
 other c hc:=World.putObj_heap_other hc
 fz a:=by
  unfold World.frozen?;by_cases e:a.block=b
  ·rw[e,World.putObj_heap_same (bJ h),h]
  ·rw[World.putObj_heap_other e]
def kT:Ex→Option Code
 | .normal=>none
 | .exit id=>some (.exit id)
 | .ret=>some .ret
theorem CA{l:Nat}{R:Ending→World→Prop}{e:Ex}(h:∃v w',(Instr.endRound l (kT e)).run P w= .ok v w'∧R (.returned v) w'):roundPost P l R (TJ e) a w:=by
 cases e<;>exact h
def qO(P:Program)(T:TE)(n:Nat)(c:Code)(rf:Bool):Prop:=
 ∀(F:Fence),F.plain=Fence.wide→(rf=true→F.round=none)→ ∀(g0:G) (w0:World),(∀b k,g0.K b≠ .box (.own k))→ ∀ {S:St} {g:G} {a:Act} {w:World} {AQ:Ex→St→Prop} {Q:Exit→Act→World→Prop},
  bR T n g0 w0 S g a w→Marks w0 g w g0.D→nA T (fA P T) (oR P T) c S AQ→
  (∀e agj g' agd w' agD,AQ e agj→bR T n (g0.jR agD) w0 agj g' agd w'→Marks w0 g' w' agD→Q (TJ e) agd w')→c.wpIn F 0 P Q a w
theorem AW{D:List Deferred}{b:Nat}{r:Loop}(h:Marks w0 g w D)(hb:w.heap[b]? =some (.loop r))(o:Obj):Marks w0 g (w.putObj b o) D:=fun d hd=>by
 obtain⟨q,h1,h2,h3,h4,h5⟩:=h d hd;have dA:q≠b:=fun e=>by subst e;rw[hb]at h3;cases h3
 exact⟨q,h1,h2,(World.putObj_heap_other dA).trans h3,h4,h5⟩
def oT(fn:FuncId)(tmps:Array Value)(ps:Array Tmp)(ca cb:Code)(df:Nat)(st:LoopState)(pe:Option Code):Loop:= {state:=st,pending:=pe,fn,tmps,params:=ps,assign:=ca,body:=cb,defers:=df}
theorem wz{ca cb:Code}(hA:qO P T n ca false)(hB:qO P T n cb false){fn:FuncId}{tmps:Array Value}{ps:Array Tmp}{df:Nat}(hts:tmps.size=n)(j4:ps.toList.all (fun p=>Nat.blt p n)=true)(rv:yC ps.toList=true)
  {ts:List Nat} {vs y:List AV} {B agx:List er} {se:Ex}
  (h:GP (nA T (fA P T) (oR P T) ca) (nA T (fA P T) (oR P T) cb) ps.toList ts vs (.loop (oT fn tmps ps ca cb df .ready none)) (.loop (oT fn tmps ps ca cb df .busy none)) y B se agx):
  oR P T (.yl (.ext 0) vs (ts.map fun t=>tmps.getD t undef)::y) (.ob (.loop (oT fn tmps ps ca cb df .ready none))::B) (.p (.bool (kT se).isNone))
   (.ob (.loop (oT fn tmps ps ca cb df (if(kT se).isNone then .ready else .done) (kT se)))::agx):=by
 intro g w b xs lp sg hlen h0 fR yj;obtain⟨b',eb,T5,hKl,GR,XG⟩:=Mz (h0 _ rfl);have:b=b':=by injection eb with e1;injection e1
 subst this;obtain⟨_,hH0,hl⟩:=yj 0 _ rfl;rw[T5]at hl;obtain⟨Zq,hwa⟩:=h;have La:xs.size=ps.size:=by simp at hlen Zq;omega
 let a0:Act:= {tmps:=(ps.zip xs).foldl (fun t (p,v)=>t.setIfInBounds p v) tmps,defers:= []}
 have Zm:a0.tmps=(ps.toList.zip xs.toList).foldl (fun t p=>t.setIfInBounds p.1 p.2) tmps:=by
  show(ps.zip xs).foldl (fun t p=>t.setIfInBounds p.1 p.2) tmps=_;rw[←Array.foldl_toList,Array.toList_zip]
 have aaU:∀p∈ps.toList,p<tmps.size:=fun p hp=>by
  have:=List.all_eq_true.1 j4 p hp;rw[hts];exact Nat.le_of_ble_eq_true this
 have pH:∀t,aA g w ((Cx ps.toList y ts vs (.ob (.loop (oT fn tmps ps ca cb df .ready none))::B)).get t) (a0.tmps.getD t undef):=fun t=>by
  rw[Zm];exact yD t ps.toList y xs.toList tmps Zq (by simpa using La) aaU rv (fun j u x hu hx=>fR j u x (by simpa using hu) (by rw[←Array.getElem?_toList];exact hx)) (EK t tmps ts vs XG)
 have LA:bR T n ⟨g.H,g.K,g.B,[]⟩ w (Cx ps.toList y ts vs (.ob (.loop (oT fn tmps ps ca cb df .ready none))::B)) g a0 w:= {
  defers:=rfl
  size:=by rw[Zm,GQ];exact hts
  bH:=fun t=> .of (pH t)
  boxes:=fun l b hb=>by
   obtain⟨j,_,rfl,hj⟩:=tL l _ 0 b hb;exact yj j b (by simpa using hj)
  fresh:=lp
  dc:=fun t s sz rows e=>by have:=pH t;rw[e]at this;exact this.lQ.elim
  aJ:=fun t l e=>by rw[(pH t).pJ]at e;cases e
  dm:=fun t sz rows e=>by have:=pH t;rw[e]at this;exact this.lQ.elim
  de:=fun t s wt v e=>by have:=pH t;rw[e]at this;exact this.uJ.elim
  live:=fun k hk=>absurd hk (sg _ _)
  frame:=⟨rfl,rfl,rfl,Nat.le_refl _,fun b hb hk=>⟨rfl,rfl,hk⟩,⟨.refl _ _,fun _ h=>⟨rfl,h⟩⟩,fun _ _=>rfl⟩}
 refine⟨fn,_,ca,cb,run_yield hl La,roundIn_of_wpIn trivial (hA (Fence.wide.inRound b) rfl (by simp) ⟨g.H,g.K,g.B,[]⟩ w sg LA (fun d hd=>by cases hd) hwa ?_)⟩;intro e S1 g1 a1 w1 D1 We gY hm1;cases e with
 | exit id=>exact We.elim
 | ret=>exact We.elim
 | normal=>
  simp only at We;split at We
  ·rename_i agq fE XH;obtain⟨rfl,hwb⟩:=We;obtain⟨Z8,LH,si⟩:=gY.boxes (.ext 0) _ XH;have PN:g1.B (.ext 0)=b:=((gY.frame.ge.box (.ext 0) (by show g.K (g.B (.ext 0))=_;rw[T5];exact hKl)).1).trans T5;rw[PN]at si;show ∃P6,(Instr.beginRound b).run P w1= .ok () P6∧_
   refine⟨_,run_beginRound si rfl,?_⟩;have zG:=sq si (oT fn tmps ps ca cb df .busy none);rw[←PN]at zG;have kf:=gY.reset XH fE LH zG (b':= .ob (.loop (oT fn tmps ps ca cb df .busy none))) ⟨Z8,LH,zG.block⟩;rw[PN]at kf;refine hB (Fence.wide.inRound b) rfl (by simp) (G.jR ⟨g.H,g.K,g.B,[]⟩ D1) w sg kf (AW hm1 si _) hwb ?_;rintro e2 S2 g2 a2 w2 D2 ⟨rfl,rq⟩ V8 Zv;split at rq
   ·rename_i bs2 aaW hex;subst rq;obtain⟨q1,q2⟩:=dr hex;have XI:S2.bx (.ext 0)=some (.ob (.loop (oT fn tmps ps ca cb df .busy none))):=q2 0 0 _ (List.getElem?_range (Nat.succ_pos _)) rfl;obtain⟨WV,Zj,mj⟩:=V8.boxes (.ext 0) _ XI;have J1:g2.B (.ext 0)=b:=((V8.frame.ge.box (.ext 0) (by show g.K (g.B (.ext 0))=_;rw[T5];exact hKl)).1).trans T5;rw[J1]at mj;have Wc:=sq mj (oT fn tmps ps ca cb df (if(kT e2).isNone then .ready else .done) (kT e2));have aej:=Wc;rw[←J1]at Wc;have J6:=V8.reset XI aaW Zj Wc (b':= .ob (.loop (oT fn tmps ps ca cb df (if(kT e2).isNone then .ready else .done) (kT e2)))) ⟨WV,Zj,Wc.block⟩;refine CA ⟨_,_,run_endRound (kT e2) mj,_,g2,rfl,?_,?_,.of (.p (.bool _)),?_,?_⟩
    ·have hf:=J6.frame;rw[J1]at hf;exact⟨hf.os,hf.tape,hf.output,hf.size,hf.bM,⟨hf.ge.ext,hf.ge.box⟩,hf.fz⟩
    ·have:=J6.fresh;rw[J1]at this;exact this
    ·intro j bb hj;have SB:=J6.boxes (.ext j);rw[J1]at SB;refine SB bb ?_;rw[St.cM];cases j with
     | zero=>rw[if_pos rfl];simpa using hj
     | succ j=>
      rw[if_neg (fun e=>by cases e)];have aN:j+1<B.length+1:=by
       have:=(List.getElem?_eq_some_iff.1 hj).1;simp at this q1;omega
      exact q2 (j+1) (j+1) bb (List.getElem?_range aN) (by simpa using hj)
    ·intro j hj;have hb:=yj j _ (List.getElem?_eq_getElem hj);exact(J6.frame.ge.box (.ext j) hb.gV).1
   ·exact rq.elim
  ·exact We.elim
theorem CB(w:World)(o:Obj)(ho:∀x y z,o≠ .cells x y z)(a:Addr):(w.alloc o).frozen? a=w.frozen? a:=by
 by_cases h:a.block<w.heap.size
 ·exact yw w o a h
 ·unfold World.frozen?;have h1:w.heap[a.block]? =none:=Array.getElem?_eq_none (by omega);rw[h1];by_cases e:a.block=w.heap.size
  ·rw[e,jc];cases o<;>first | rfl | exact absurd rfl (ho _ _ _)
  ·have h2:(w.alloc o).heap[a.block]? =none:=Array.getElem?_eq_none (by rw[World.size_alloc];omega);rw[h2]
theorem bR.P7{d:Deferred}{D:List Deferred}(hs:bR T n (g0.jR D) w0 S g a w):bR T n (g0.jR (d::D)) w0 S g {a with defers:=d::a.defers} w where
 defers:=by show d::a.defers=d::D;rw[hs.defers];rfl
 size:=hs.size
 bH:=hs.bH
 boxes:=hs.boxes
 fresh:=hs.fresh
 dc:=hs.dc
 aJ:=hs.aJ
 dm:=hs.dm
 de:=hs.de
 live:=hs.live
 frame:=⟨hs.frame.os,hs.frame.tape,hs.frame.output,hs.frame.size,hs.frame.bM,⟨hs.frame.ge.ext,hs.frame.ge.box⟩,hs.frame.fz⟩
theorem P8{r:Loc→Option Loc}{m:Nat}{l:Loc}{vs Y8:List AV}{xs Gh:List Value}{age:Loc}(h:lg r (m+1) (.yl l vs xs)=some (.yl age Y8 Gh)):r l=some age∧Gh=xs:=by
 unfold lg at h;simp only at h;split at h
 ·rename_i h1 h2;cases h;exact⟨h1,rfl⟩
 ·cases h
set_option maxHeartbeats 1000000 in
theorem EL(hT:bw P T){Le:Operand}{ps:Array Tmp}{ca cb:Code}(cq:eI n true (.rangeFunc Le ps ca cb)=true)(hA:qO P T n ca false)(hB:qO P T n cb false):qO P T n (.rangeFunc Le ps ca cb) true:=by
 intro F hF CC g0 w0 h0 S g a w AQ Q hs hm h hq;have GG:=CC rfl;simp only[eI,Bool.and_eq_true]at cq;obtain⟨_,j4,rv,_,_⟩:=cq;simp only[nA]at h;unfold MN at h;split at h
 ·exact h.elim
 ·rename_i fE;split at h
  ·rename_i f xy hg;obtain⟨k0,ts,se,h⟩:=h;split at h
   ·exact h.elim
   ·rename_i Kc;refine wpIn_rangeFunc (fun fn hfn=>?_);rw[GG];obtain⟨R,hR⟩:∃R:LoopState→Option Code→Loop,R=oT fn a.tmps ps ca cb w.heap.size:=⟨_,rfl⟩
    obtain⟨W1,Zw⟩:∃W1,W1=w.alloc (.deferred (some [])):=⟨_,rfl⟩
    obtain⟨W2,hW2⟩:∃W2,W2=W1.alloc (.loop (R .ready none)):=⟨_,rfl⟩
    obtain⟨g1,XJ⟩:∃g1,g1=g.new w.heap.size 0 .none g.B:=⟨_,rfl⟩
    have aek:W1.heap.size=w.heap.size+1:=by rw[Zw];exact World.size_alloc _ _
    have gY:bR T n (g.jR g0.D) w S g1 a W1:=by
     rw[XJ,Zw];exact hs.Cy.grow (EC hs.fresh _ 0 .none g.B (fun _ _=>rfl)) (fun k=>lS hs.fresh (by simp) _)
    have aaX:bR T n (g1.jR g0.D) W1 S g1 a W1:=gY.Cy;obtain⟨g2,kf,kl⟩:=aaX.kb Kc (.loop (R .ready none)) (CB W1 _ (by simp)) (.ob (.loop (R .ready none))) (fun g' hH hK hB oN hc=>⟨by rw[hB];exact hK,by rw[hB,hH];simp,by rw[hB];exact jc W1 _⟩);rw[←hW2]at kf kl;obtain⟨hpb,hpK⟩:=jm kl;have J1:g2.B (.own k0)=w.heap.size+1:=by injection hpb with e;injection e with e;injection e with e;omega
    have aaY:bR T n (g2.jR g0.D) W2 (S.bK (.own k0) (.ob (.loop (R .ready none)))) g2 a W2:=kf.Cy;have aaZ:Frame g0 w0 g2 W2:=qa (qa hs.frame gY.frame) kf.frame;have hmk:Marks w0 g1 W1 ({target:= .collected w.heap.size,args:= #[]} ::g0.D):=by
     have hold:Marks w0 g1 W1 g0.D:=nY hm gY.frame;have Mj:List.Pairwise (fun x y:Deferred=>x.target≠y.target) ({target:= .collected w.heap.size,args:= #[]} ::g0.D):=by
      refine List.pairwise_cons.2 ⟨fun d hd e=>?_,?_⟩
      ·obtain⟨r,h1,h2,h3,h4,h5⟩:=hm d hd;have:=bJ h3;rw[h1]at e;injection e with e
       omega
      ·cases hD:g0.D with
       | nil=>exact List.Pairwise.nil
       | cons d D=>
        obtain⟨r,_,_,_,_,h5⟩:=hm d (by rw[hD];simp);rw[←hD];exact h5
     intro d hd;rw[List.mem_cons]at hd;rcases hd with rfl | hd
     ·refine⟨w.heap.size,rfl,hs.frame.size,by rw[Zw];exact jc w _,?_,Mj⟩;rw[XJ];show(if w.heap.size=w.heap.size then BK.none else _)= .none;rw[if_pos rfl]
     ·obtain⟨r,h1,h2,h3,h4,_⟩:=hold d hd;exact⟨r,h1,h2,h3,h4,Mj⟩
    have aa0:Marks w0 g2 W2 ({target:= .collected w.heap.size,args:= #[]} ::g0.D):=nY hmk kf.frame;have hX:cU g2 W2 (bO T S [] 0 Le) (a.eval Le):=bN hT kf bq.eN 0 Le;rw[hg]at hX;obtain⟨cv,dq,dP,xa⟩:∃cv:Array Value,a.eval Le= .func (.func f) #[] cv∧xy.length=cv.size∧ ∀(j:Nat) u x,xy[j]? =some u→cv[j]? =some x→aA g2 W2 u x:=by
     have hX:aA g2 W2 (.fn f [] xy) (a.eval Le):=hX;generalize a.eval Le=z at hX;cases hX with
     | @fn _ _ _ xs ys k1 k2 k3 k4=>
      have:xs= #[]:=Array.eq_empty_of_size_eq_zero k1.symm;subst this;exact⟨ys,rfl,k3,k4⟩
    have hyv:aA g2 W2 (.yl (.own k0) (ts.map fun t=>oG (bO T S [] 0 (.tmp t))) (ts.map fun t=>a.tmps.getD t undef)) (.func (.yield (w.heap.size+1)) #[] #[]):=by
     refine .yl J1 (by rw[←J1];exact hpK) (by simp) (fun j u x hu hx=>?_);rw[List.getElem?_map]at hu hx;obtain⟨t,h1,rfl⟩:=Option.map_eq_some_iff.1 hu;rw[h1]at hx;cases hx;exact qF (bN hT kf bq.eN 0 (.tmp t))
    have h:=h (ts.map fun t=>a.tmps.getD t undef) (.loop (R .ready none)) (.loop (R .busy none)) (.loop (R .done (match se with | none=>none | some e=>kT e))) (.loop (R .exhausted (match se with | none=>none | some e=>kT e)));rw[eP,eP]at h;simp only[gx,ic]at h;have aa1:=mB (S:=S.bK (.own k0) (.ob (.loop (R .ready none)))) (m:=3) (kg (ls:=(AV.yl (.own k0) (ts.map fun t=>oG (bO T S [] 0 (.tmp t))) (ts.map fun t=>a.tmps.getD t undef)::xy).flatMap (kX 3)) List.nodup_nil);revert h aa1;generalize reach (S.bK (.own k0) (.ob (.loop (R .ready none)))) 3 (sQ [] ((AV.yl (.own k0) (ts.map fun t=>oG (bO T S [] 0 (.tmp t))) (ts.map fun t=>a.tmps.getD t undef)::xy).flatMap (kX 3)))=ls;intro h P9;split at h
    ·rename_i vs xs1 agG o1 bs Zx ny;obtain⟨N,ys,Bx,rfl,T5,Qa,h⟩:=h;obtain⟨m1,m2⟩:=dr Zx;obtain⟨b1,b2⟩:=dr ny;obtain⟨c1,c2⟩:=P8 (m2 0 _ _ rfl rfl);subst c2;obtain⟨j0,ej,hj0⟩:=kh c1;cases ej;have Lc:o1= .loop (R .ready none):=by
      have:=b2 0 _ _ hj0 rfl;rw[St.cM,if_pos rfl]at this;cases this;rfl
     subst Lc;have ri:∀(j:Nat) l,ls[j]? =some l→ ∃b,(S.bK (.own k0) (.ob (.loop (R .ready none)))).bx l=some b:=fun j l hl=>by
      have hj:j<((.ob (.loop (R .ready none)):er)::Bx 0).length:=by rw[b1];exact(List.getElem?_eq_some_iff.1 hl).1
      have:=b2 j l _ hl (List.getElem?_eq_getElem hj);split at this
      ·rename_i b hb;exact⟨b,hb⟩
      ·cases this
     have fin:∀(st:LoopState) (pe:Option Code) (Bf:List er) (r r1:AV) (lb:List er),st≠ .busy→fA P T f (.yl (.ext 0) vs (ts.map fun t=>a.tmps.getD t undef)::agG) (.ob (.loop (R .ready none))::Bx 0) r (.ob (.loop (R st pe))::Bf)→lg (cz ls) 4 r=some r1→
       Bf.length=(Bx 0).length→fj (rP (cz ls)) (.ob (.loop (R st pe))::Bf)=some lb→
       (∀g' agd w',bR T n (g0.jR ({target:= .collected w.heap.size,args:= #[]} ::g0.D)) w0 ((fW (S.bK (.own k0) (.ob (.loop (R .ready none)))) ls lb).bK (.own k0) (.ob (.loop (R .exhausted pe)))) g' agd w'→Marks w0 g' w' ({target:= .collected w.heap.size,args:= #[]} ::g0.D)→
        match pe with | none=>Q .normal agd w' | some c=>c.wpIn F 0 P Q agd w')→
       ∃(l:Nat) (mark:List Deferred) (XK:World) (d:Deferred) (MQ:World) (f:FuncId) (args:Array Value) (P6:World),
        (Instr.enterLoop fn a.tmps ps ca cb none).run P w= .ok (l,mark) XK∧(resolve a.eval (rangeCall Le l) 0).run P XK= .ok d MQ∧(∀agE,Target.leads P MQ d.target d.args=some agE→F.fn agE)∧
        (invoke d.target d.args).run P MQ= .ok (.enter f args) P6∧(F.depth.isSome=true→1≤0)∧CallsIn F (0-1) P f args P6 (rangePost F 0 P l Q {a with defers:=mark++a.defers}):=by
      intro st pe Bf r r1 lb j3 hj zQ hBf PH XL;obtain⟨aa3,hj⟩:=hj;obtain⟨l1,l2⟩:=dr PH;have aa4:lb[0]? =some (.ob (.loop (R st pe))):=by
       cases lb with
       | nil=>simp at l1
       | cons b lb=>
        have:=l2 0 _ b rfl rfl;cases this;rfl
      have hc:=hj (g2.call ls) W2 (#[.func (.yield (w.heap.size+1)) #[] #[]]++cv) (nM kf.fresh) (fun b k=>r9 b k) (by simp at m1 ⊢;omega) (fun j u x hu hx=>by
       cases j with
       | zero=>
        have hu:some (AV.yl (.ext 0) vs (ts.map fun t=>a.tmps.getD t undef))=some u:=hu;cases hu;have:x= .func (.yield (w.heap.size+1)) #[] #[]:=by
         rw[Array.getElem?_append_left (by simp)]at hx;simpa using hx.symm
        subst this;exact lT jf 4 (m2 0 _ _ rfl rfl) hyv
       | succ j=>
        have sZ:j<xy.length:=by have:=(List.getElem?_eq_some_iff.1 hu).1;simp at m1 this;omega
        have hv:xy[j]? =some xy[j]:=List.getElem?_eq_getElem sZ;have jz:cv[j]? =some x:=by
         rw[Array.getElem?_append_right (by simp)]at hx;simpa using hx
        exact lT jf 4 (m2 (j+1) _ u (by simpa using hv) hu) (qF (xa j _ x hv jz).K6)) (fun j b hb=>by
       have sZ:j<ls.length:=by have:=(List.getElem?_eq_some_iff.1 hb).1;omega
       have hv:ls[j]? =some ls[j]:=List.getElem?_eq_getElem sZ;have:=b2 j _ b hv hb;split at this
       ·rename_i b0 Gd;exact kE jf (nb P9 hv) this (kf.boxes _ _ Gd)
       ·cases this)
      refine⟨w.heap.size+1,[{target:= .collected w.heap.size,args:= #[]}],W2,{target:= .fn (.func f) cv,args:= #[.func (.yield (w.heap.size+1)) #[] #[]]},W2,f,#[.func (.yield (w.heap.size+1)) #[] #[]]++cv,W2,?_,?_,fun agE _=>tP hF agE,?_,fun e=>(by rw[sn hF]at e;cases e),?_⟩
      ·rw[hW2,Zw,hR];exact run_enterLoop_outer _ _ _ _ _
      ·simp only[resolve,dq];simp[go_sem]
      ·simp[invoke,go_sem,tu aa3]
      ·refine yv hF (Calls.mono hc ?_);intro e w3 he;obtain⟨x,g',rfl,h1,h2,h3,h4,h5⟩:=he;obtain⟨g3,k1,k2,k3⟩:=nN (bs:=lb) aaY fE 0 P9 h1 h2 (by simp at b1 l1;omega) ri (fun j hj=>h5 j (by rw[b1];exact hj)) (fun j m b hm hb g2 hR=>by
        have hj:j<((.ob (.loop (R st pe)):er)::Bf).length:=by have:=(List.getElem?_eq_some_iff.1 hb).1;omega
        have hv:=List.getElem?_eq_getElem hj;exact kE hR (show cz ls (.ext j)=some m by show fT ls j=some m;rw[eG];exact hm) (l2 j _ b hv hb) (h4 j _ hv))
       obtain⟨e1,e2,e3⟩:=uQ ls lb (S.bK (.own k0) (.ob (.loop (R .ready none))));have Tp:(fW (S.bK (.own k0) (.ob (.loop (R .ready none)))) ls lb).bx (.own k0)=some (.ob (.loop (R st pe))):=(xX ls lb _ P9 (by simp at b1 l1;omega)).1 0 _ _ hj0 aa4;obtain⟨hK3,hH3,Zy⟩:=k1.boxes _ _ Tp;have hB3:g3.B (.own k0)=w.heap.size+1:=((k1.frame.ge.box (.own k0) hpK).1).trans J1;rw[hB3]at Zy;have hr3:=sq Zy (R .exhausted pe);rw[←hB3]at hr3;have J6:=k1.reset Tp (by rw[e3];exact fE) hH3 hr3 (b':= .ob (.loop (R .exhausted pe))) ⟨hK3,hH3,hr3.block⟩;rw[hB3]at J6;have Kj:(Instr.endLoop (w.heap.size+1)).run P w3= .ok pe (w3.putObj (w.heap.size+1) (.loop (R .exhausted pe))):=by
        have:=run_endLoop (P:=P) Zy (by rw[hR];exact j3);rw[hR]at this ⊢;exact this
       refine⟨pe,_,Kj,?_⟩;have hm4:=AW (nY aa0 k1.frame) Zy (.loop (R .exhausted pe));have:=XL g3 _ _ (bR.P7 (bR.MO aaZ J6)) hm4;cases pe with
       | none=>exact this
       | some c=>exact this
     have H9:∀k,k<N→oR P T (.yl (.ext 0) vs (ts.map fun t=>a.tmps.getD t undef)::ys k) (.ob (.loop (R .ready none))::Bx k) (.p (.bool true)) (.ob (.loop (R .ready none))::Bx (k+1)):=fun k hk=>by
      have hk:=Qa k hk;rw[hR]at hk ⊢;exact wz hA hB hs.size j4 rv hk
     cases se with
     | none=>
      obtain⟨⟨r,hJ⟩,dC⟩:=h;obtain⟨hj,hr⟩:=hJ H9;split at hr
      ·rename_i r1 zG;split at dC
       ·rename_i lb MR;exact fin .ready none (Bx N) r r1 lb (by simp) hj zG (by rw[T5]) MR (fun g' agd w' h1 h2=>hq .normal _ _ _ _ _ dC h1 h2)
       ·exact dC.elim
      ·exact hr.elim
     | some e=>
      obtain⟨BS,hBS,hrN,⟨r,hJ⟩,dC⟩:=h;have dA:e≠ .normal:=fun he=>by subst he;exact dC
      have hyN:oR P T (.yl (.ext 0) vs (ts.map fun t=>a.tmps.getD t undef)::ys N) (.ob (.loop (R .ready none))::Bx N) (.p (.bool false)) (.ob (.loop (R .done (kT e)))::BS):=by
       rw[hR]at hrN ⊢;have:=wz hA hB hs.size j4 rv hrN;cases e with
       | normal=>exact absurd rfl dA
       | exit id=>exact this
       | ret=>exact this
      obtain⟨hj,hr⟩:=hJ H9 hyN;split at hr
      ·rename_i r1 zG;cases e with
       | normal=>exact absurd rfl dA
       | ret=>
        simp only at dC;split at dC
        ·cases(by assumption:Ex.ret=Ex.normal)
        ·rename_i lb MR K9;exact fin .done (some .ret) BS r r1 lb (by simp) hj zG (by rw[hBS]) MR (fun g' agd w' h1 h2=>wpIn_ret (hq .ret _ _ _ _ _ dC h1 h2))
        ·exact dC.elim
       | exit id=>
        simp only at dC;split at dC
        ·cases(by assumption:Ex.exit id=Ex.normal)
        ·rename_i lb MR K9;exact fin .done (some (.exit id)) BS r r1 lb (by simp) hj zG (by rw[hBS]) MR (fun g' agd w' h1 h2=>wpIn_exit (hq (.exit id) _ _ _ _ _ dC h1 h2))
        ·exact dC.elim
      ·exact hr.elim
    ·exact h.elim
  ·exact h.elim
theorem yE{D:List Deferred}{ls:List Loc}(h:Marks w0 g w D):Marks w0 (g.bM ls) w D:=fun d hd=>by
 obtain⟨r,h1,h2,h3,h4,h5⟩:=h d hd;exact⟨r,h1,h2,h3,uX h4,h5⟩
theorem Kk(hT:bw P T)(o7:P.follows .mixedOrders=true):∀(c:Code) (rf:Bool),eI n rf c=true→qO P T n c rf:=by
 intro c;induction c with
 | skip=>intro rf cq F hF CC g0 w0 h0 S g a w AQ Q hs hm h hq;exact wpIn_skip (hq .normal _ _ _ _ g0.D h hs hm)
 | region id ops draw=>
  intro rf cq F hF CC g0 w0 h0 S g a w AQ Q hs hm h hq;refine wpIn_mono (z3 (J:=()) hF hT o7 (by cases rf<;>exact cq) hs.Cy h (Kn:=fun agd w'=>Q .normal agd w') (fun agj g' agd w' hK gu=>hq .normal _ _ _ _ g0.D hK (bR.MO hs.frame gu) (nY hm gu.frame))) (fun e a w h=>?_);cases e with
  | normal=>exact h
  | _=>exact h.elim
 | seq x y Xm Xn=>
  intro rf cq F hF CC g0 w0 h0 S g a w AQ Q hs hm h hq;have cq:(eI n rf x&&eI n rf y)=true:=by cases rf<;>exact cq
  rw[Bool.and_eq_true]at cq;refine wpIn_seq (Xm rf cq.1 F hF CC g0 w0 h0 hs hm h (fun e agj g' agd w' agD hK gu BZ=>?_));cases e with
  | normal=>exact Xn rf cq.2 F hF CC (g0.jR agD) w0 h0 gu BZ hK (fun e S2 g2 a2 w2 D2 h1 h2 h3=>hq e S2 g2 a2 w2 D2 h1 h2 h3)
  | exit id=>exact hq (.exit id) _ _ _ _ agD hK gu BZ
  | ret=>exact hq .ret _ _ _ _ agD hK gu BZ
 | cond x p q ihp ihq=>
  intro rf cq F hF CC g0 w0 h0 S g a w AQ Q hs hm h hq;have cq:(eI n rf p&&eI n rf q)=true:=by cases rf<;>exact cq
  rw[Bool.and_eq_true]at cq;unfold nA at h;split at h
  ·rename_i t ht;have hv:=bN hT hs (c:= []) bq.eN 0 x;rw[ht]at hv;have hb:=cK.ja (aA.eg hv);exact wpIn_cond_split hb (fun ht=>ihp rf cq.1 F hF CC g0 w0 h0 hs hm (h.1 ht) hq) (fun ht=>ihq rf cq.2 F hF CC g0 w0 h0 hs hm (h.2 ht) hq)
  ·exact h.elim
 | block id x ih=>
  intro rf cq F hF CC g0 w0 h0 S g a w AQ Q hs hm h hq;have cq:eI n rf x=true:=by cases rf<;>exact cq
  refine wpIn_block (ih rf cq F hF CC g0 w0 h0 hs hm h (fun e agj g' agd w' agD hK gu BZ=>?_));cases e with
  | normal=>exact hq .normal _ _ _ _ agD hK gu BZ
  | exit qy=>
   show(if qy=id then Q .normal agd w' else Q (.exit qy) agd w');by_cases he:qy=id
   ·rw[if_pos he];have hK:(bif Nat.beq qy id then AQ .normal agj else AQ (.exit qy) agj):=hK;rw[beq_true.2 he]at hK;exact hq .normal _ _ _ _ agD hK gu BZ
   ·rw[if_neg he];have hK:(bif Nat.beq qy id then AQ .normal agj else AQ (.exit qy) agj):=hK;rw[beq_false.2 he]at hK;exact hq (.exit qy) _ _ _ _ agD hK gu BZ
  | ret=>exact hq .ret _ _ _ _ agD hK gu BZ
 | loop x ih=>
  intro rf cq F hF CC g0 w0 h0 S g a w AQ Q hs hm h hq;have cq:eI n rf x=true:=by cases rf<;>exact cq
  obtain⟨ts,ls,I,⟨k0,hI0⟩,hI⟩:=h;refine Cz (I:=fun k a w=>∃S g D,I k S∧bR T n (g0.jR D) w0 S g a w∧Marks w0 g w D) ⟨k0,_,_,g0.D,hI0,hs.bM h0 ts ls,yE hm⟩ (fun k a w ⟨agj,g',agD,hk,gu,BZ⟩=>?_);refine ih rf cq F hF CC (g0.jR agD) w0 h0 gu BZ (hI k agj hk) (fun e S2 g2 a2 w2 D2 hK kf Zv=>?_);cases e with
  | normal=>
   obtain⟨m,hm,Mq⟩:=hK;exact⟨m,hm,_,_,D2,Mq,bR.bM kf h0 ts ls,yE Zv⟩
  | exit id=>exact hq (.exit id) _ _ _ _ D2 hK kf Zv
  | ret=>exact hq .ret _ _ _ _ D2 hK kf Zv
 | label id=>intro rf cq F hF CC g0 w0 h0 S g a w AQ Q hs hm h hq;exact wpIn_label (hq .normal _ _ _ _ g0.D h hs hm)
 | exit id=>intro rf cq F hF CC g0 w0 h0 S g a w AQ Q hs hm h hq;exact wpIn_exit (hq (.exit id) _ _ _ _ g0.D h hs hm)
 | ret=>intro rf cq F hF CC g0 w0 h0 S g a w AQ Q hs hm h hq;exact wpIn_ret (hq .ret _ _ _ _ g0.D h hs hm)
 | rangeFunc Le ps x y Xm Xn=>
  intro rf cq;cases rf with
  | false=>simp[eI]at cq
  | true=>
   have T6:=cq;simp only[eI,Bool.and_eq_true]at T6;exact EL hT cq (Xm false T6.2.2.2.1) (Xn false T6.2.2.2.2)
 | _=>intro rf cq;cases rf<;>cases cq
theorem bR.shut(hs:bR T n g0 w0 S g a w){r:Nat}(hk:g.K r= .none)(hr:w.heap[r]? =some (.deferred (some [])))(hr0:w0.heap.size≤r):
  bR T n (g.jR g0.D) (w.putObj r (.deferred none)) S g a (w.putObj r (.deferred none))∧Frame g0 w0 g (w.putObj r (.deferred none)):=by
 have aN:=bJ hr;have cell:∀b i,(w.putObj r (.deferred none)).cell? ⟨b,i,none⟩=w.cell? ⟨b,i,none⟩:=fun b i=>by
  by_cases e:b=r
  ·subst e;unfold World.cell?;simp only[World.putObj_heap_same aN,hr]
  ·exact World.cell?_of_block (w:=w) (a:=⟨b,i,none⟩) (World.putObj_heap_other e)
 have obm:∀b xs c,w.heap[b]? =some (Obj.map xs c)→(w.putObj r (.deferred none)).heap[b]? =some (Obj.map xs c):=fun b xs c hb=>by
  rw[World.putObj_heap_other (fun e=>by subst e;rw[hr]at hb;cases hb)];exact hb
 have fz:∀a,(w.putObj r (.deferred none)).frozen? a=w.frozen? a:=fun a=>by
  unfold World.frozen?;by_cases e:a.block=r
  ·rw[e,World.putObj_heap_same aN,hr]
  ·rw[World.putObj_heap_other e]
 have hc:j8 (fun e=>e= .none) g w g (w.putObj r (.deferred none)):= {
  os:=rfl
  tape:=rfl
  output:=rfl
  size:=by simp
  same:=fun b hb hx=>⟨World.putObj_heap_other (fun e=>hx (by rw[e];exact hk)),rfl,rfl⟩
  ge:=⟨⟨fun _=>Nat.le_refl _,fun b i _=>cell b i,fun b xs c _ h=>obm b xs c h⟩,fun _ h=>⟨rfl,h⟩⟩
  fresh:=fun b hb=>hs.fresh b (by simpa using hb)
  fz:=fun a _=>fz a}
 refine⟨?_,?_⟩
 ·exact {
   defers:=hs.defers
   size:=hs.size
   bH:=fun t=>(hs.bH t).jq hc (by simp) (fun l he=>by
    obtain⟨_,b,hb⟩:=hs.aJ t l he;exact⟨(hs.boxes l b hb).gV,by simp⟩) (fun b hb=>(hs.fresh b hb).2)
   boxes:=fun l b hb=>(hs.boxes l b hb).jq hc (by simp) (fun _=>by simp)
   fresh:=hc.fresh
   dc:=hs.dc
   aJ:=hs.aJ
   dm:=hs.dm
   de:=hs.de
   live:=hs.live
   frame:=⟨rfl,rfl,rfl,Nat.le_refl _,fun b hb hk=>⟨rfl,rfl,hk⟩,⟨.refl _ _,fun _ h=>⟨rfl,h⟩⟩,fun _ _=>rfl⟩}
 ·exact {
   os:=hs.frame.os
   tape:=hs.frame.tape
   output:=hs.frame.output
   size:=by simpa using hs.frame.size
   bM:=fun b hb hk=>by
    obtain⟨h1,h2,h3⟩:=hs.frame.bM b hb hk;exact⟨(World.putObj_heap_other (by omega)).trans h1,h2,h3⟩
   ge:=⟨⟨hs.frame.ge.ext.le,fun b i hi=>(cell b i).trans (hs.frame.ge.ext.cell b i hi),fun b xs c hh h=>obm b xs c (hs.frame.ge.ext.ob b xs c hh h)⟩,hs.frame.ge.box⟩
   fz:=fun a ha=>(fz a).trans (hs.frame.fz a ha)}
theorem tU{fn:Func}{R:Ending→World→Prop}{a:Act} :∀(D:List Deferred) (w:World) (g0:G) (w0:World),bR T n g0 w0 S g a w→Marks w0 g w D→Frame g' w' g w→
  w'.heap.size≤w0.heap.size→(∀d∈D,∀r,d.target= .collected r→w'.heap.size≤r)→
  (∀g0 w0 w,bR T n g0 w0 S g a w→Frame g' w' g w→LeavesIn Fence.wide 0 P fn a.tmps R [] .returning w)→LeavesInM Fence.wide 0 P fn a.tmps R D .returning w
 | [],w,g0,w0,hs,hm,hf,dZ,hr,dC=>dC g0 w0 w hs hf
 | d::D,w,g0,w0,hs,hm,hf,dZ,hr,dC=>by
  obtain⟨r,h1,h2,h3,h4,h5⟩:=hm d (by simp);refine⟨by simp,.inl ⟨r,w.putObj r (.deferred none),h1,run_takeDeferred h3,?_⟩⟩;obtain⟨k1,k2⟩:=hs.shut h4 h3 h2;have rh:w'.heap.size≤r:=hr d (by simp) r h1;have aaN:Frame g' w' g (w.putObj r (.deferred none)):= {
   os:=hf.os
   tape:=hf.tape
   output:=hf.output
   size:=by simpa using hf.size
   bM:=fun b hb hk=>by
    obtain⟨q1,q2,q3⟩:=hf.bM b hb hk;exact⟨(World.putObj_heap_other (by omega)).trans q1,q2,q3⟩
   ge:=⟨⟨hf.ge.ext.le,fun b i hi=>by
     have e1:=hf.ge.ext.cell b i hi;have e2:(w.putObj r (.deferred none)).cell? ⟨b,i,none⟩=w.cell? ⟨b,i,none⟩:=by
      by_cases e:b=r
      ·subst e;unfold World.cell?;simp only[World.putObj_heap_same (bJ h3),h3]
      ·exact World.cell?_of_block (w:=w) (a:=⟨b,i,none⟩) (World.putObj_heap_other e)
     exact e2.trans e1,fun b xs c hh h=>by
     rw[World.putObj_heap_other (fun e=>by subst e;have:=hf.ge.ext.ob _ xs c hh h;rw[h3]at this;cases this)];exact hf.ge.ext.ob b xs c hh h⟩,hf.ge.box⟩
   fz:=fun a ha=>by
    refine Eq.trans ?_ (hf.fz a ha);unfold World.frozen?;rw[World.putObj_heap_other (fun e=>by rw[e]at ha;exact absurd (Nat.lt_of_lt_of_le ha rh) (Nat.lt_irrefl _))]}
  have rest:∀(agD:List Deferred),(∀x∈agD,x∈D)→agD.Pairwise (fun x y=>x.target≠y.target)→ ∀agA∈agD,∃q,agA.target= .collected q∧q≠r∧w0.heap.size≤q∧(w.putObj r (.deferred none)).heap[q]? =some (.deferred (some []))∧g.K q= .none:=by
   intro agD XM _ agA pC;obtain⟨q,q1,q2,q3,q4,_⟩:=hm agA (by simp[XM agA pC]);have dA:q≠r:=fun e=>by
    have:=(List.pairwise_cons.1 h5).1 agA (XM agA pC);rw[h1,q1,e]at this;exact this rfl
   exact⟨q,q1,dA,q2,(World.putObj_heap_other dA).trans q3,q4⟩
  have V8:bR T n (g.jR g0.D) w0 S g a (w.putObj r (.deferred none))∨True:= .inr trivial;have BZ:∀agA∈D,∃q,agA.target= .collected q∧w0.heap.size≤q∧(w.putObj r (.deferred none)).heap[q]? =some (.deferred (some []))∧g.K q= .none∧D.Pairwise (fun x y=>x.target≠y.target):=fun agA pC=>by
   obtain⟨q,q1,_,q3,q4,q5⟩:=rest D (fun _ h=>h) (List.pairwise_cons.1 h5).2 agA pC;exact⟨q,q1,q3,q4,q5,(List.pairwise_cons.1 h5).2⟩
  have J6:bR T n g0 w0 S g a (w.putObj r (.deferred none)):= {
   defers:=k1.defers
   size:=k1.size
   bH:=k1.bH
   boxes:=k1.boxes
   fresh:=k1.fresh
   dc:=k1.dc
   aJ:=k1.aJ
   dm:=k1.dm
   de:=k1.de
   live:=k1.live
   frame:=k2}
  exact tU D _ g0 w0 J6 BZ aaN dZ (fun agA pC=>hr agA (by simp[pC])) dC
def T7(S:St)(v:AV):Option AV:=
 match v with
 | .dF (.own k)=>match S.bx (.own k)with
  | some (.mp ag es)=>some (.fI ag es)
  | _=>none
 | v=>some v
def Qb(S:St)(b:er):Option er:=
 match b with
 | .mix ty cs=>match fj (T7 S) cs with
  | some Af=>some (.mix ty Af)
  | none=>none
 | b=>some b
def AX(T:TE)(rs:List ResultVar)(n:Nat)(R:AV→List er→Prop)(e:Ex)(S:St):Prop:=
 match e with
 | .exit _=>False
 | _=>match nF T S rs,fj (fun j=>match S.bx (.ext j)with | some b=>Qb S b | none=>none) (List.range n)with
  | some v,some bs=>DR S v fun v=>R v bs
  | _,_=>False
theorem MS(hs:bR T n g0 w0 S g a w){l:Loc}{i:Nat}{v u:AV}{x:Value}(h:T7 S v=some u)(hv:fk g w l i v x):fk (g.wu w) w l i u x:=by
 have same:∀v,fk g w l i v x→fk (g.wu w) w l i v x:=fun v hv=>hv.jq (qL hs.fresh) (fun⟨k,e⟩=>by cases e)
 unfold T7 at h;split at h
 ·rename_i k;split at h
  ·rename_i ag es hb;cases h;have hv:aA g w (.dF (.own k)) x:=hv;obtain⟨rfl,hK⟩:=pP hv;obtain⟨_,hH,xs,c,hh,hE⟩:=hs.boxes _ _ hb;refine fk.of (.fI ?_ hh (hE.ext tJ));show 0<(match g.K (g.B (.own k))with | .box (.own _)=>max (g.H (g.B (.own k))) (gi w (g.B (.own k))) | _=>g.H (g.B (.own k)));rw[hK];simp only[gi,hh];omega
  ·cases h
 ·cases h;exact same _ hv
theorem MT(hs:bR T n g0 w0 S g a w){j:Nat}{b b':er}(h:Qb S b=some b')(hb:iB T g w (.ext j) b):iB T (g.wu w) w (.ext j) b':=by
 have same:iB T (g.wu w) w (.ext j) b:=hb.jq (qL hs.fresh) (fun⟨k,e⟩=>by cases e) (fun i ⟨k,e⟩=>by cases e);unfold Qb at h;split at h
 ·rename_i ty cs;split at h
  ·rename_i Af rX;cases h;obtain⟨hK0,hH0,xs,t,hh,dZ,hl,hKr⟩:=hb;obtain⟨e1,e2⟩:=dr rX;refine⟨same.gV,?_,xs,t,hh,dZ,by omega,fun i u x hu hx=>?_⟩
   ·show(match g.K (g.B (.ext j))with | .box (.own _)=>max (g.H (g.B (.ext j))) (gi w (g.B (.ext j))) | _=>g.H (g.B (.ext j)))=0;rw[hK0];exact hH0
   have hj:i<cs.length:=by have:=(List.getElem?_eq_some_iff.1 hu).1;omega
   have hv:cs[i]? =some cs[i]:=List.getElem?_eq_getElem hj;exact MS hs (e2 i _ u hv hu) (hKr i _ x hv hx)
  ·cases h
 ·cases h;exact same
theorem Kl{fn:Func}{args:List AV}{ext:List er}{xs:Array Value}(hle:args.length≤fn.ntmps)(lp:eW g w)(sg:∀b k,g.K b≠ .box (.own k))(hlen:args.length=xs.size)(fR:∀(j:Nat) u x,args[j]? =some u→xs[j]? =some x→aA g w u x)
  (yj:∀(j:Nat) b,ext[j]? =some b→iB T g w (.ext j) b):bR T fn.ntmps ⟨g.H,g.K,g.B,[]⟩ w (St.enter args ext) g {tmps:=xs++Array.replicate (fn.ntmps-xs.size) undef,defers:= []} w:=by
 exact {
   defers:=rfl
   size:=by simp;omega
   bH:=fun t=>by
    show mg g w _ t (mkGet (lN args 0) t) _;rw[fp];simp only[Nat.zero_le,if_true,Nat.sub_zero];cases ht:args[t]? with
    | none=>exact aA.dead _
    | some u=>
     have aN:t<args.length:=(List.getElem?_eq_some_iff.1 ht).1;have hx:xs[t]? =some xs[t]:=Array.getElem?_eq_getElem (by omega);have e:(xs++Array.replicate (fn.ntmps-xs.size) undef).getD t undef=xs[t]:=by
      rw[Array.getD_eq_getD_getElem?,Array.getElem?_append_left (by omega),hx];rfl
     rw[e];exact .of (fR t u _ ht hx)
   boxes:=fun l b hb=>by
    obtain⟨j,_,rfl,hj⟩:=tL l ext 0 b hb;exact yj j b (by simpa using hj)
   fresh:=lp
   dc:=fun t s sz rows e=>by
    have e:mkGet (lN args 0) t= .cp (.slot s) sz rows:=e;rw[fp]at e;simp only[Nat.zero_le,if_true,Nat.sub_zero]at e;cases ht:args[t]? with
    | none=>rw[ht]at e;cases e
    | some u=>
     rw[ht]at e;have e:u= .cp (.slot s) sz rows:=e;subst e;have aN:t<args.length:=(List.getElem?_eq_some_iff.1 ht).1;exact(fR t _ _ ht (Array.getElem?_eq_getElem (by omega))).lQ.elim
   aJ:=fun t l e=>by
    have e:eu (mkGet (lN args 0) t)=some l:=e;rw[fp]at e;simp only[Nat.zero_le,if_true,Nat.sub_zero]at e;cases ht:args[t]? with
    | none=>rw[ht]at e;cases e
    | some u=>
     rw[ht]at e;have e:eu u=some l:=e;have aN:t<args.length:=(List.getElem?_eq_some_iff.1 ht).1;rw[(fR t _ _ ht (Array.getElem?_eq_getElem (by omega))).pJ]at e;cases e
   dm:=fun t sz rows e=>by
    have e:mkGet (lN args 0) t= .cp .res sz rows:=e;rw[fp]at e;simp only[Nat.zero_le,if_true,Nat.sub_zero]at e;cases ht:args[t]? with
    | none=>rw[ht]at e;cases e
    | some u=>
     rw[ht]at e;have e:u= .cp .res sz rows:=e;subst e;have aN:t<args.length:=(List.getElem?_eq_some_iff.1 ht).1;exact(fR t _ _ ht (Array.getElem?_eq_getElem (by omega))).lQ.elim
   de:=fun t s wt v e=>by
    have e:mkGet (lN args 0) t= .fS s wt v:=e;rw[fp]at e;simp only[Nat.zero_le,if_true,Nat.sub_zero]at e;cases ht:args[t]? with
    | none=>rw[ht]at e;cases e
    | some u=>
     rw[ht]at e;have e:u= .fS s wt v:=e;subst e;have aN:t<args.length:=(List.getElem?_eq_some_iff.1 ht).1;exact(fR t _ _ ht (Array.getElem?_eq_getElem (by omega))).uJ.elim
   live:=fun k hk=>absurd hk (sg _ _)
   frame:=⟨rfl,rfl,rfl,Nat.le_refl _,fun b hb hk=>⟨rfl,rfl,hk⟩,⟨.refl _ _,fun _ h=>⟨rfl,h⟩⟩,fun _ _=>rfl⟩}
theorem fA.T8(hT:bw P T)(o7:P.follows .mixedOrders=true){f:FuncId}{fn:Func}{c:Code}(hf:P.funcs[f]? =some fn)(Ep:(fn.name== "runtime.NumGoroutine")=false)(hb:fn.body=some c)(cq:eI fn.ntmps true c=true)
  {args:List AV} {ext ext':List er} {r:AV} (hle:Nat.ble args.length fn.ntmps=true) (h:nA T (fA P T) (oR P T) c (St.enter args ext) (AX T fn.results.toList ext.length (fun agf bs=>agf=r∧bs=ext'))):fA P T f args ext r ext':=by
 refine⟨⟨fn,hf,Ep,by rw[hb];rfl⟩,fun g w xs lp sg hlen fR yj=>?_⟩;have hle:=Nat.le_of_ble_eq_true hle;have Sv:∀d∈([]:List Deferred),False:=fun d hd=>by cases hd
 refine(callsIn_wide (n:=0)).1 (callsIn_of_wp_marks (F:=Fence.wide) hf hb trivial (Kk (n:=fn.ntmps) hT o7 c true cq Fence.wide rfl (fun _=>rfl) ⟨g.H,g.K,g.B,[]⟩ w sg (Kl hle lp sg hlen fR yj) (fun d hd=>by cases hd) h ?_));intro e agj g' agd w' agD hE gu BZ;have key:(match nF T agj fn.results.toList,fj (fun j=>match agj.bx (.ext j)with | some b=>Qb agj b | none=>none) (List.range ext.length)with
   | some v,some bs=>DR agj v fun v=>v=r∧bs=ext'
   | _,_=>False)→LeavesInM Fence.wide 0 P fn agd.tmps (fun e w'=>∃x g',e= .returned x∧Frame g w g' w'∧eW g' w'∧m8 g' w' r x∧
   (∀(j:Nat) b,ext'[j]? =some b→iB T g' w' (.ext j) b)∧ ∀(j:Nat),j<ext.length→g'.B (.ext j)=g.B (.ext j)) agd.defers .returning w':=by
  intro hE;have hD:agd.defers=agD:=gu.defers;rw[hD];have Ph:Frame g w g' w':=⟨gu.frame.os,gu.frame.tape,gu.frame.output,gu.frame.size,gu.frame.bM,⟨gu.frame.ge.ext,gu.frame.ge.box⟩,gu.frame.fz⟩;refine tU agD w' _ w gu BZ Ph (Nat.le_refl _) (fun d hd r hr=>?_) (fun g1 w1 w2 kf hf2=>?_)
  ·obtain⟨q,q1,q2,_⟩:=BZ d hd;rw[hr]at q1;injection q1 with q1
   rw[q1];exact q2
  ·split at hE
   ·rename_i v bs hv ny;obtain⟨x,g2,u,cn,⟨rfl,rfl⟩,hr,hc,nz⟩:=AP (P:=P) hT kf hv hE;have hX:¬J9 BK.none:=fun h=>by
     rcases h with⟨t,e⟩ | ⟨t,e⟩<;>cases e
    have hf:=hc.frame hX hf2;refine⟨x,cn,x,g2,rfl,hf,hc.fresh,hr,fun j b hj=>?_,fun j hj=>?_⟩
    ·obtain⟨b1,b2⟩:=dr ny;have sZ:j<ext.length:=by have:=(List.getElem?_eq_some_iff.1 hj).1;simpa [b1]using this
     have hb:=b2 j j b (by simp[sZ]) hj;split at hb
     ·rename_i b0 Gd;refine(MT kf hb (kf.boxes _ _ Gd)).jq nz (fun h=>?_) (fun i h=>?_)
      ·rcases h with⟨t,e⟩ | ⟨t,e⟩<;>cases e
      ·rcases h with⟨t,e⟩ | ⟨t,e⟩<;>cases e
     ·cases hb
    ·have hb:=yj j ext[j] (List.getElem?_eq_getElem hj);exact(hf.ge.box _ hb.gV).1
   ·exact hE.elim
 cases e with
 | exit id=>exact hE.elim
 | normal=>exact key hE
 | ret=>exact key hE
end
end Go.Hm
set_option maxRecDepth 8000
namespace Go.Hm
section
variable {T:TE} {J:uF} {ops:List Oper} {apps:List Nat} {ι:Type}
theorem EM{fr:Bool}{o:Oper}{S:St}{Q:ι→St→Prop}(hc:aY o≠ .fN)(h:aQ T J ops apps fr o S fun S=>∃i,Q i S):∃i,aQ T J ops apps fr o S (Q i):=by
 obtain⟨δ,h1,h2,⟨i,h3⟩,h4⟩:=fG hc h;refine⟨i,h4 S ⟨fun _ _=>rfl,fun _ _=>rfl⟩ ?_ _ h3⟩;cases dP:aY o with
 | quiet=>trivial
 | load=>exact fun l b h=>h
 | alloc=>exact fun k _=>rfl
 | call=>exact fun _=>⟨rfl,rfl⟩
 | store=>exact⟨rfl,rfl⟩
 | fN=>exact absurd dP hc
def sr(l:List Oper):Bool:=l.all fun o=>match aY o with | .fN=>false | _=>true
theorem wA{o:Oper}{r:List Oper}(h:sr (o::r)=true):aY o≠ .fN∧sr r=true:=by
 unfold sr at h;rw[List.all_cons,Bool.and_eq_true]at h;refine⟨fun e=>?_,h.2⟩;have h1:=h.1;rw[e]at h1;cases h1
theorem qP:∀(l:List Oper) (bs:List Bool),(kA l bs).map Prod.fst=l
 | [],bs=>by cases bs<;>rfl
 | o::r,[]=>by simp[kA,qP r []]
 | o::r,b::bs=>by simp[kA,qP r bs]
theorem vj:∀(l:List Oper) (bs:List An),(iZ l bs).map Prod.fst=l
 | [],bs=>by cases bs<;>rfl
 | o::r,[]=>by simp[iZ,vj r []]
 | o::r,b::bs=>by simp[iZ,vj r bs]
theorem kH{K agi:St→Prop}(hk:∀S,K S→agi S):∀(l:List (Oper×Bool)) (S:St),mK T J ops apps l S K→mK T J ops apps l S agi
 | [],S,h=>hk S h
 | (o,b)::r,S,h=>bI (fun S1 h1=>kH hk r S1 h1) h
theorem nZ{K agi:St→Prop}(hk:∀S,K S→agi S):∀(l:List (Oper×An)) (S:St),nE T J ops apps l S K→nE T J ops apps l S agi
 | [],S,h=>hk S h
 | (o,b)::r,S,h=>⟨h.1,bI (fun S1 h1=>nZ hk r S1 h1) h.2⟩
theorem vk{Q:ι→St→Prop} :∀(l:List (Oper×Bool)) (S:St),sr (l.map Prod.fst)=true→mK T J ops apps l S (fun S=>∃i,Q i S)→ ∃i,mK T J ops apps l S (Q i)
 | [],S,_,h=>h
 | (o,b)::r,S,hn,h=>by
  obtain⟨h1,h2⟩:=wA hn;exact EM h1 (bI (fun S1 h3=>vk r S1 h2 h3) h)
theorem yG{Q:ι→St→Prop} :∀(l:List (Oper×An)) (S:St),sr (l.map Prod.fst)=true→nE T J ops apps l S (fun S=>∃i,Q i S)→ ∃i,nE T J ops apps l S (Q i)
 | [],S,_,h=>h
 | (o,b)::r,S,hn,h=>by
  obtain⟨h1,h2⟩:=wA hn;obtain⟨i,hi⟩:=EM h1 (bI (fun S1 h3=>yG r S1 h2 h3) h.2);exact⟨i,h.1,hi⟩
theorem vm{K agi:St→Prop}(hk:∀S,K S→agi S)(S:St)(h:re ops apps K S):re ops apps agi S:=by
 unfold re at h ⊢;split at h<;>exact hk _ h
theorem Qc(S:St):∃agj,∀K:St→Prop,re ops apps K S=K agj:=by
 unfold re;cases apps with
 | cons x r=>exact⟨_,fun K=>rfl⟩
 | nil=>
  cases xG ops with
  | true=>exact⟨_,fun K=>rfl⟩
  | false=>
   cases S.aJ with
   | true=>exact⟨_,fun K=>rfl⟩
   | false=>exact⟨_,fun K=>rfl⟩
theorem CD{Q:ι→St→Prop}(S:St)(h:re ops apps (fun S=>∃i,Q i S) S):∃i,re ops apps (Q i) S:=by
 obtain⟨agj,hS⟩:=Qc (ops:=ops) (apps:=apps) S;rw[hS]at h;obtain⟨i,hi⟩:=h;exact⟨i,by rw[hS];exact hi⟩
theorem CE{draw:Bool}{K agi:St→Prop}(hk:∀S,K S→agi S)(S:St)(h:jk T J ops draw S K):jk T J ops draw S agi:=by
 unfold jk at h ⊢;cases draw with
 | false=>exact kH (fun S h=>vm hk S h) _ _ h
 | true=>
  simp only at h ⊢;split at h
  ·rename_i e;exact⟨trivial,kH (fun S h=>vm hk S h) _ _ h.2⟩
  ·obtain⟨an,h1,h2⟩:=h;exact⟨an,h1,nZ (fun S h=>vm hk S h) _ _ h2⟩
theorem GS{draw:Bool}{Q:ι→St→Prop}(S:St)(hn:sr ops=true)(h:jk T J ops draw S fun S=>∃i,Q i S):∃i,jk T J ops draw S (Q i):=by
 unfold jk at h ⊢;cases draw with
 | false=>
  exact vk _ _ (by rw[qP];exact hn) (kH (fun S h=>CD S h) _ _ h)
 | true=>
  simp only at h ⊢;split at h
  ·rename_i e;obtain⟨i,hi⟩:=vk _ _ (by rw[qP];exact hn) (kH (fun S h=>CD S h) _ _ h.2);exact⟨i,trivial,hi⟩
  ·obtain⟨an,h1,h2⟩:=h;obtain⟨i,hi⟩:=yG _ _ (by rw[vj];exact hn) (nZ (fun S h=>CD S h) _ _ h2);exact⟨i,an,h1,hi⟩
def rk:Code→Bool
 | .skip=>true
 | .region _ ops _=>sr ops.toList
 | .seq a b=>rk a&&rk b
 | .cond _ a b=>rk a&&rk b
 | .block _ c=>rk c
 | .exit _=>true
 | .ret=>true
 | _=>false
theorem jF:∀(c:Code) (S:St) {Q agF:Ex→St→Prop},rk c=true→(∀e S,Q e S→agF e S)→oK T J c S Q→oK T J c S agF
 | .skip,S,Q,agF,_,hq,h=>hq _ _ h
 | .region _ ops d,S,Q,agF,_,hq,h=>CE (hq _) S h
 | .seq a b,S,Q,agF,hn,hq,h=>by
  have hn:(rk a&&rk b)=true:=hn;rw[Bool.and_eq_true]at hn;refine jF a S hn.1 (fun e S h=>?_) h;cases e with
  | normal=>exact jF b S hn.2 hq h
  | exit id=>exact hq _ _ h
  | ret=>exact hq _ _ h
 | .cond c a b,S,Q,agF,hn,hq,h=>by
  have hn:(rk a&&rk b)=true:=hn;rw[Bool.and_eq_true]at hn;unfold oK at h ⊢;split at h
  ·exact⟨fun t=>jF a S hn.1 hq (h.1 t),fun t=>jF b S hn.2 hq (h.2 t)⟩
  ·exact h.elim
 | .block id c,S,Q,agF,hn,hq,h=>by
  refine jF c S hn (fun e S h=>?_) h;cases e with
  | normal=>exact hq _ _ h
  | exit qy=>
   simp only at h ⊢;cases hb:Nat.beq qy id with
   | true=>rw[hb]at h;exact hq _ _ h
   | false=>rw[hb]at h;exact hq _ _ h
  | ret=>exact hq _ _ h
 | .exit _,S,Q,agF,_,hq,h=>hq _ _ h
 | .ret,S,Q,agF,_,hq,h=>hq _ _ h
def XN(T:TE)(J:uF)(b:Code)(Q:Ex→St→Prop):Ex→St→Prop:=fun e S=>match e with
 | .normal=>oK T J b S Q
 | .exit id=>Q (.exit id) S
 | .ret=>Q .ret S
def MU(id:Nat)(Q:Ex→St→Prop):Ex→St→Prop:=fun e S=>match e with
 | .normal=>Q .normal S
 | .exit qy=>bif Nat.beq qy id then Q .normal S else Q (.exit qy) S
 | .ret=>Q .ret S
theorem vn:∀(c:Code) (S:St) {Q:ι→Ex→St→Prop},rk c=true→oK T J c S (fun e S=>∃i,Q i e S)→ ∃i,oK T J c S (Q i)
 | .skip,S,Q,_,h=>h
 | .region _ ops d,S,Q,hn,h=>GS S hn h
 | .seq a b,S,Q,hn,h=>by
  have hn:(rk a&&rk b)=true:=hn;rw[Bool.and_eq_true]at hn;have h2:oK T J a S fun e S=>∃i,XN T J b (Q i) e S:=jF a S hn.1 (fun e S h=>by
    cases e with
    | normal=>exact vn b S hn.2 h
    | exit id=>exact h
    | ret=>exact h) h
  exact vn a S hn.1 (Q:=fun i=>XN T J b (Q i)) h2
 | .cond c a b,S,Q,hn,h=>by
  have hn:(rk a&&rk b)=true:=hn;rw[Bool.and_eq_true]at hn;unfold oK at h ⊢;split at h
  ·rename_i t _;cases t with
   | true=>
    obtain⟨i,hi⟩:=vn a S hn.1 (h.1 rfl);exact⟨i,fun _=>hi,fun e=>by cases e⟩
   | false=>
    obtain⟨i,hi⟩:=vn b S hn.2 (h.2 rfl);exact⟨i,(fun e=>by cases e),fun _=>hi⟩
  ·exact h.elim
 | .block id c,S,Q,hn,h=>by
  have h2:oK T J c S fun e S=>∃i,MU id (Q i) e S:=jF c S hn (fun e S h=>by
    cases e with
    | normal=>exact h
    | exit qy=>
     show ∃i,(bif Nat.beq qy id then Q i .normal S else Q i (.exit qy) S)
     have h:(bif Nat.beq qy id then(∃i,Q i .normal S)else(∃i,Q i (.exit qy) S)):=h;cases hb:Nat.beq qy id with
     | true=>rw[hb]at h;exact h
     | false=>rw[hb]at h;exact h
    | ret=>exact h) h
  exact vn c S hn (Q:=fun i=>MU id (Q i)) h2
 | .exit _,S,Q,_,h=>h
 | .ret,S,Q,_,h=>h
end
end Go.Hm
set_option maxRecDepth 512
namespace Go.Hm
def iO(n:Int):Prop:= -9223372036854775808≤n∧n≤9223372036854775807
section
variable {T:TE} {m:Nat} {t e:TypeId} {cs:List PV} {s b:Nat} {z:List AV} {c:Bool}
theorem aZ{k:IntKind}(h:Shape T m t cs)(ht:T t=some ⟨.int k,s,b,z,c⟩):∃n,cs= [.int k n]∧k.min≤n∧n≤k.max:=by
 cases m with
 | zero=>exact h.elim
 | succ m=>unfold Shape at h;rw[ht]at h;exact h
theorem l5(h:Shape T m t cs)(ht:T t=some ⟨.bool,s,b,z,c⟩):∃n,cs= [.bool n]:=by
 cases m with
 | zero=>exact h.elim
 | succ m=>unfold Shape at h;rw[ht]at h;exact h
theorem qQ(h:Shape T m t cs)(ht:T t=some ⟨.str,s,b,z,c⟩):∃l,cs= [.str l]∧l.length≤maxLen:=by
 cases m with
 | zero=>exact h.elim
 | succ m=>unfold Shape at h;rw[ht]at h;exact h
theorem dz(h:Shape T m t cs)(ht:T t=some ⟨.slice e,s,b,z,c⟩):∃rows,cs= [.sl (T.size e) rows]∧rows.length≤maxLen∧ ∃ago,∀r∈rows,Shape T ago e r:=by
 cases m with
 | zero=>exact h.elim
 | succ m=>unfold Shape at h;rw[ht]at h;obtain⟨rows,h1,h2,h3⟩:=h;exact⟨rows,h1,h2,m,h3⟩
theorem bY{fs:List (Nat×TypeId)}(h:Shape T m t cs)(ht:T t=some ⟨.struct fs,s,b,z,c⟩):cs.length=s∧ ∃ago,∀f∈fs,Shape T ago f.2 (fe (gn cs f.1) (T.size f.2)):=by
 cases m with
 | zero=>exact h.elim
 | succ m=>unfold Shape at h;rw[ht]at h;exact⟨h.1,m,h.2⟩
theorem Km{n:Nat}(h:Shape T m t cs)(ht:T t=some ⟨.arr n e,s,b,z,c⟩):cs.length=s∧ ∃ago,∀i,i<n→Shape T ago e (fe (gn cs (i*T.size e)) (T.size e)):=by
 cases m with
 | zero=>exact h.elim
 | succ m=>unfold Shape at h;rw[ht]at h;exact⟨h.1,m,h.2⟩
theorem gC{α:Type}{f:α→List PV}{p:α→Prop}{q:List PV→Prop}(hd:∀r,q r→ ∃x,r=f x∧p x):∀ {rows:List (List PV)},(∀r∈rows,q r)→ ∃l:List α,rows=l.map f∧ ∀x∈l,p x
 | [],_=>⟨[],rfl,by simp⟩
 | r::rows,h=>by
  obtain⟨x,rfl,hx⟩:=hd r (h r List.mem_cons_self);obtain⟨l,rfl,hl⟩:=gC hd (fun r hr=>h r (List.mem_cons_of_mem _ hr));exact⟨x::l,rfl,by simpa using⟨hx,hl⟩⟩
theorem dt{n:Int}(h1:IntKind.i64.min≤n)(h2:n≤IntKind.i64.max):iO n:=by
 have e1:IntKind.i64.min= -9223372036854775808:=by decide+kernel
 have e2:IntKind.i64.max=9223372036854775807:=by decide+kernel
 rw[e1]at h1;rw[e2]at h2;exact⟨h1,h2⟩
end
structure cP.wf(x:cP):Prop where
 Site:iO x.Site
 Number:iO x.Number
theorem cP.dec{m:Nat}{cs:List PV}(h:Shape te m 70 cs):∃x:cP,cs=x.enc∧x.wf:=by
 obtain⟨hl,ago,hf⟩:=bY (t:=70) h rfl
 match cs,hl with
 | [c0,c1],_=>
  have h0:Shape te ago 3 [c0]:=hf (0,3) (by simp);obtain⟨v0,e,p0,q0⟩:=aZ (t:=3) h0 rfl;cases e;have h1:Shape te ago 3 [c1]:=hf (1,3) (by simp);obtain⟨v1,e,p1,q1⟩:=aZ (t:=3) h1 rfl;cases e;exact⟨⟨v0,v1⟩,rfl,⟨dt p0 q0,dt p1 q1⟩⟩
structure cH.wf(x:cH):Prop where
 Steps:iO x.Steps
 ct:iO x.ct
theorem cH.dec{m:Nat}{cs:List PV}(h:Shape te m 75 cs):∃x:cH,cs=x.enc∧x.wf:=by
 obtain⟨hl,ago,hf⟩:=bY (t:=75) h rfl
 match cs,hl with
 | [c0,c1],_=>
  have h0:Shape te ago 3 [c0]:=hf (0,3) (by simp);obtain⟨v0,e,p0,q0⟩:=aZ (t:=3) h0 rfl;cases e;have h1:Shape te ago 3 [c1]:=hf (1,3) (by simp);obtain⟨v1,e,p1,q1⟩:=aZ (t:=3) h1 rfl;cases e;exact⟨⟨v0,v1⟩,rfl,⟨dt p0 q0,dt p1 q1⟩⟩
structure ee.wf(x:ee):Prop where
 ID:cP.wf x.ID
 fq:iO x.fq
theorem ee.dec{m:Nat}{cs:List PV}(h:Shape te m 98 cs):∃x:ee,cs=x.enc∧x.wf:=by
 obtain⟨hl,ago,hf⟩:=bY (t:=98) h rfl
 match cs,hl with
 | [c0,c1,c2],_=>
  have h0:Shape te ago 70 [c0,c1]:=hf (0,70) (by simp);obtain⟨v0,e0,u0⟩:=cP.dec h0;unfold cP.enc at e0;simp only[List.cons.injEq,and_true]at e0;obtain⟨rfl,rfl⟩:=e0;have h2:Shape te ago 3 [c2]:=hf (2,3) (by simp);obtain⟨v2,e,p2,q2⟩:=aZ (t:=3) h2 rfl;cases e;exact⟨⟨v0,v2⟩,rfl,⟨u0,dt p2 q2⟩⟩
structure cf.wf(x:cf):Prop where
 ID:cP.wf x.ID
 Name:x.Name.length≤maxLen
 aT:cH.wf x.aT
 aL:x.aL.length≤maxLen∧(∀y∈x.aL,ee.wf y)
theorem cf.dec{m:Nat}{cs:List PV}(h:Shape te m 78 cs):∃x:cf,cs=x.enc∧x.wf:=by
 obtain⟨hl,ago,hf⟩:=bY (t:=78) h rfl
 match cs,hl with
 | [c0,c1,c2,c3,c4,c5],_=>
  have h0:Shape te ago 70 [c0,c1]:=hf (0,70) (by simp);obtain⟨v0,e0,u0⟩:=cP.dec h0;unfold cP.enc at e0;simp only[List.cons.injEq,and_true]at e0;obtain⟨rfl,rfl⟩:=e0;have h2:Shape te ago 9 [c2]:=hf (2,9) (by simp);obtain⟨v2,e,w2⟩:=qQ (t:=9) h2 rfl;cases e;have h3:Shape te ago 75 [c3,c4]:=hf (3,75) (by simp);obtain⟨v3,e3,u3⟩:=cH.dec h3;unfold cH.enc at e3;simp only[List.cons.injEq,and_true]at e3;obtain⟨rfl,rfl⟩:=e3;have h5:Shape te ago 76 [c5]:=hf (5,76) (by simp);obtain⟨r5,e,w5,k5,g5⟩:=dz (t:=76) h5 rfl;cases e;obtain⟨v5,e,u5⟩:=gC (f:=ee.enc) (p:=ee.wf) (fun r hr=>ee.dec (m:=k5) hr) g5;subst e;exact⟨⟨v0,v2,v3,v5⟩,rfl,⟨u0,w2,u3,⟨by simpa using w5,u5⟩⟩⟩
structure cy.wf(x:cy):Prop where
 Count:iO x.Count
 Unit:iO x.Unit
 lu:iO x.lu
 lv:iO x.lv
 lx:iO x.lx
 ly:iO x.ly
 lz:iO x.lz
 lA:iO x.lA
theorem cy.dec{m:Nat}{cs:List PV}(h:Shape te m 51 cs):∃x:cy,cs=x.enc∧x.wf:=by
 obtain⟨hl,ago,hf⟩:=bY (t:=51) h rfl
 match cs,hl with
 | [c0,c1,c2,c3,c4,c5,c6,c7],_=>
  have h0:Shape te ago 3 [c0]:=hf (0,3) (by simp);obtain⟨v0,e,p0,q0⟩:=aZ (t:=3) h0 rfl;cases e;have h1:Shape te ago 3 [c1]:=hf (1,3) (by simp);obtain⟨v1,e,p1,q1⟩:=aZ (t:=3) h1 rfl;cases e;have h2:Shape te ago 49 [c2,c3,c4,c5,c6,c7]:=hf (2,49) (by simp);obtain⟨_,k2,g2⟩:=Km (t:=49) h2 rfl;have a2:Shape te k2 3 [c2]:=g2 0 (by omega);obtain⟨v2,e,p2,q2⟩:=aZ (t:=3) a2 rfl;cases e;have a3:Shape te k2 3 [c3]:=g2 1 (by omega);obtain⟨v3,e,p3,q3⟩:=aZ (t:=3) a3 rfl;cases e;have a4:Shape te k2 3 [c4]:=g2 2 (by omega);obtain⟨v4,e,p4,q4⟩:=aZ (t:=3) a4 rfl;cases e;have a5:Shape te k2 3 [c5]:=g2 3 (by omega);obtain⟨v5,e,p5,q5⟩:=aZ (t:=3) a5 rfl;cases e;have a6:Shape te k2 3 [c6]:=g2 4 (by omega);obtain⟨v6,e,p6,q6⟩:=aZ (t:=3) a6 rfl;cases e;have a7:Shape te k2 3 [c7]:=g2 5 (by omega);obtain⟨v7,e,p7,q7⟩:=aZ (t:=3) a7 rfl;cases e;exact⟨⟨v0,v1,v2,v3,v4,v5,v6,v7⟩,rfl,⟨dt p0 q0,dt p1 q1,dt p2 q2,dt p3 q3,dt p4 q4,dt p5 q5,dt p6 q6,dt p7 q7⟩⟩
structure cN.wf(x:cN):Prop where
 At:iO x.At
 yr:iO x.yr
theorem cN.dec{m:Nat}{cs:List PV}(h:Shape te m 204 cs):∃x:cN,cs=x.enc∧x.wf:=by
 obtain⟨hl,ago,hf⟩:=bY (t:=204) h rfl
 match cs,hl with
 | [c0,c1,c2],_=>
  have h0:Shape te ago 3 [c0]:=hf (0,3) (by simp);obtain⟨v0,e,p0,q0⟩:=aZ (t:=3) h0 rfl;cases e;have h1:Shape te ago 3 [c1]:=hf (1,3) (by simp);obtain⟨v1,e,p1,q1⟩:=aZ (t:=3) h1 rfl;cases e;have h2:Shape te ago 4 [c2]:=hf (2,4) (by simp);obtain⟨v2,e⟩:=l5 (t:=4) h2 rfl;cases e;exact⟨⟨v0,v1,v2⟩,rfl,⟨dt p0 q0,dt p1 q1⟩⟩
structure ba.wf(x:ba):Prop where
 At:iO x.At
 fq:iO x.fq
theorem ba.dec{m:Nat}{cs:List PV}(h:Shape te m 103 cs):∃x:ba,cs=x.enc∧x.wf:=by
 obtain⟨hl,ago,hf⟩:=bY (t:=103) h rfl
 match cs,hl with
 | [c0,c1],_=>
  have h0:Shape te ago 3 [c0]:=hf (0,3) (by simp);obtain⟨v0,e,p0,q0⟩:=aZ (t:=3) h0 rfl;cases e;have h1:Shape te ago 3 [c1]:=hf (1,3) (by simp);obtain⟨v1,e,p1,q1⟩:=aZ (t:=3) h1 rfl;cases e;exact⟨⟨v0,v1⟩,rfl,⟨dt p0 q0,dt p1 q1⟩⟩
structure eT.wf(x:eT):Prop where
 Log:iO x.Log
 nh:iO x.nh
theorem eT.dec{m:Nat}{cs:List PV}(h:Shape te m 106 cs):∃x:eT,cs=x.enc∧x.wf:=by
 obtain⟨hl,ago,hf⟩:=bY (t:=106) h rfl
 match cs,hl with
 | [c0,c1],_=>
  have h0:Shape te ago 3 [c0]:=hf (0,3) (by simp);obtain⟨v0,e,p0,q0⟩:=aZ (t:=3) h0 rfl;cases e;have h1:Shape te ago 3 [c1]:=hf (1,3) (by simp);obtain⟨v1,e,p1,q1⟩:=aZ (t:=3) h1 rfl;cases e;exact⟨⟨v0,v1⟩,rfl,⟨dt p0 q0,dt p1 q1⟩⟩
structure aH.wf(x:aH):Prop where
 Step:iO x.Step
 gJ:iO x.gJ
 eU:iO x.eU
theorem aH.dec{m:Nat}{cs:List PV}(h:Shape te m 56 cs):∃x:aH,cs=x.enc∧x.wf:=by
 obtain⟨hl,ago,hf⟩:=bY (t:=56) h rfl
 match cs,hl with
 | [c0,c1,c2],_=>
  have h0:Shape te ago 3 [c0]:=hf (0,3) (by simp);obtain⟨v0,e,p0,q0⟩:=aZ (t:=3) h0 rfl;cases e;have h1:Shape te ago 3 [c1]:=hf (1,3) (by simp);obtain⟨v1,e,p1,q1⟩:=aZ (t:=3) h1 rfl;cases e;have h2:Shape te ago 3 [c2]:=hf (2,3) (by simp);obtain⟨v2,e,p2,q2⟩:=aZ (t:=3) h2 rfl;cases e;exact⟨⟨v0,v1,v2⟩,rfl,⟨dt p0 q0,dt p1 q1,dt p2 q2⟩⟩
structure aS.wf(x:aS):Prop where
 aB:aH.wf x.aB
 Show:iO x.Show
theorem aS.dec{m:Nat}{cs:List PV}(h:Shape te m 113 cs):∃x:aS,cs=x.enc∧x.wf:=by
 obtain⟨hl,ago,hf⟩:=bY (t:=113) h rfl
 match cs,hl with
 | [c0,c1,c2,c3,c4],_=>
  have h0:Shape te ago 56 [c0,c1,c2]:=hf (0,56) (by simp);obtain⟨v0,e0,u0⟩:=aH.dec h0;unfold aH.enc at e0;simp only[List.cons.injEq,and_true]at e0;obtain⟨rfl,rfl,rfl⟩:=e0;have h3:Shape te ago 4 [c3]:=hf (3,4) (by simp);obtain⟨v3,e⟩:=l5 (t:=4) h3 rfl;cases e;have h4:Shape te ago 3 [c4]:=hf (4,3) (by simp);obtain⟨v4,e,p4,q4⟩:=aZ (t:=3) h4 rfl;cases e;exact⟨⟨v0,v3,v4⟩,rfl,⟨u0,dt p4 q4⟩⟩
structure bE.wf(x:bE):Prop where
 aB:aH.wf x.aB
 Log:iO x.Log
theorem bE.dec{m:Nat}{cs:List PV}(h:Shape te m 182 cs):∃x:bE,cs=x.enc∧x.wf:=by
 obtain⟨hl,ago,hf⟩:=bY (t:=182) h rfl
 match cs,hl with
 | [c0,c1,c2,c3,c4],_=>
  have h0:Shape te ago 56 [c0,c1,c2]:=hf (0,56) (by simp);obtain⟨v0,e0,u0⟩:=aH.dec h0;unfold aH.enc at e0;simp only[List.cons.injEq,and_true]at e0;obtain⟨rfl,rfl,rfl⟩:=e0;have h3:Shape te ago 3 [c3]:=hf (3,3) (by simp);obtain⟨v3,e,p3,q3⟩:=aZ (t:=3) h3 rfl;cases e;have h4:Shape te ago 4 [c4]:=hf (4,4) (by simp);obtain⟨v4,e⟩:=l5 (t:=4) h4 rfl;cases e;exact⟨⟨v0,v3,v4⟩,rfl,⟨u0,dt p3 q3⟩⟩
structure aU.wf(x:aU):Prop where
 Text:x.Text.length≤maxLen
 kG:iO x.kG
theorem aU.dec{m:Nat}{cs:List PV}(h:Shape te m 137 cs):∃x:aU,cs=x.enc∧x.wf:=by
 obtain⟨hl,ago,hf⟩:=bY (t:=137) h rfl
 match cs,hl with
 | [c0,c1],_=>
  have h0:Shape te ago 9 [c0]:=hf (0,9) (by simp);obtain⟨v0,e,w0⟩:=qQ (t:=9) h0 rfl;cases e;have h1:Shape te ago 3 [c1]:=hf (1,3) (by simp);obtain⟨v1,e,p1,q1⟩:=aZ (t:=3) h1 rfl;cases e;exact⟨⟨v0,v1⟩,rfl,⟨w0,dt p1 q1⟩⟩
structure aD.wf(x:aD):Prop where
 ID:cP.wf x.ID
 Kind:iO x.Kind
 Value:eT.wf x.Value
 aE:x.aE.length≤maxLen∧(∀y∈x.aE,aS.wf y)
 cQ:x.cQ.length≤maxLen∧(∀y∈x.cQ,bE.wf y)
 cT:iO x.cT
 jQ:iO x.jQ
 Dynamic:iO x.Dynamic
 bz:x.bz.length≤maxLen∧(∀y∈x.bz,aU.wf y)
 Co:iO x.Co
 Cp:iO x.Cp
theorem aD.dec{m:Nat}{cs:List PV}(h:Shape te m 111 cs):∃x:aD,cs=x.enc∧x.wf:=by
 obtain⟨hl,ago,hf⟩:=bY (t:=111) h rfl
 match cs,hl with
 | [c0,c1,c2,c3,c4,c5,c6,c7,c8,c9,c10,c11,c12],_=>
  have h0:Shape te ago 70 [c0,c1]:=hf (0,70) (by simp);obtain⟨v0,e0,u0⟩:=cP.dec h0;unfold cP.enc at e0;simp only[List.cons.injEq,and_true]at e0;obtain⟨rfl,rfl⟩:=e0;have h2:Shape te ago 3 [c2]:=hf (2,3) (by simp);obtain⟨v2,e,p2,q2⟩:=aZ (t:=3) h2 rfl;cases e;have h3:Shape te ago 106 [c3,c4]:=hf (3,106) (by simp);obtain⟨v3,e3,u3⟩:=eT.dec h3;unfold eT.enc at e3;simp only[List.cons.injEq,and_true]at e3;obtain⟨rfl,rfl⟩:=e3;have h5:Shape te ago 107 [c5]:=hf (5,107) (by simp);obtain⟨r5,e,w5,k5,g5⟩:=dz (t:=107) h5 rfl;cases e;obtain⟨v5,e,u5⟩:=gC (f:=aS.enc) (p:=aS.wf) (fun r hr=>aS.dec (m:=k5) hr) g5;subst e;have h6:Shape te ago 108 [c6]:=hf (6,108) (by simp);obtain⟨r6,e,w6,k6,g6⟩:=dz (t:=108) h6 rfl;cases e;obtain⟨v6,e,u6⟩:=gC (f:=bE.enc) (p:=bE.wf) (fun r hr=>bE.dec (m:=k6) hr) g6;subst e;have h7:Shape te ago 3 [c7]:=hf (7,3) (by simp);obtain⟨v7,e,p7,q7⟩:=aZ (t:=3) h7 rfl;cases e;have h8:Shape te ago 3 [c8]:=hf (8,3) (by simp);obtain⟨v8,e,p8,q8⟩:=aZ (t:=3) h8 rfl;cases e;have h9:Shape te ago 3 [c9]:=hf (9,3) (by simp);obtain⟨v9,e,p9,q9⟩:=aZ (t:=3) h9 rfl;cases e;have pV:Shape te ago 109 [c10]:=hf (10,109) (by simp);obtain⟨r10,e,w10,k10,g10⟩:=dz (t:=109) pV rfl;cases e;obtain⟨v10,e,u10⟩:=gC (f:=aU.enc) (p:=aU.wf) (fun r hr=>aU.dec (m:=k10) hr) g10;subst e;have K7:Shape te ago 3 [c11]:=hf (11,3) (by simp);obtain⟨v11,e,p11,q11⟩:=aZ (t:=3) K7 rfl;cases e;have Wf:Shape te ago 3 [c12]:=hf (12,3) (by simp);obtain⟨Ia,e,p12,q12⟩:=aZ (t:=3) Wf rfl;cases e;exact⟨⟨v0,v2,v3,v5,v6,v7,v8,v9,v10,v11,Ia⟩,rfl,⟨u0,dt p2 q2,u3,⟨by simpa using w5,u5⟩,⟨by simpa using w6,u6⟩,dt p7 q7,dt p8 q8,dt p9 q9,⟨by simpa using w10,u10⟩,dt p11 q11,dt p12 q12⟩⟩
structure aG.wf(x:aG):Prop where
 cg:iO x.cg
 Count:iO x.Count
 iT:iO x.iT
 lW:iO x.lW
theorem aG.dec{m:Nat}{cs:List PV}(h:Shape te m 292 cs):∃x:aG,cs=x.enc∧x.wf:=by
 obtain⟨hl,ago,hf⟩:=bY (t:=292) h rfl
 match cs,hl with
 | [c0,c1,c2,c3],_=>
  have h0:Shape te ago 3 [c0]:=hf (0,3) (by simp);obtain⟨v0,e,p0,q0⟩:=aZ (t:=3) h0 rfl;cases e;have h1:Shape te ago 3 [c1]:=hf (1,3) (by simp);obtain⟨v1,e,p1,q1⟩:=aZ (t:=3) h1 rfl;cases e;have h2:Shape te ago 3 [c2]:=hf (2,3) (by simp);obtain⟨v2,e,p2,q2⟩:=aZ (t:=3) h2 rfl;cases e;have h3:Shape te ago 3 [c3]:=hf (3,3) (by simp);obtain⟨v3,e,p3,q3⟩:=aZ (t:=3) h3 rfl;cases e;exact⟨⟨v0,v1,v2,v3⟩,rfl,⟨dt p0 q0,dt p1 q1,dt p2 q2,dt p3 q3⟩⟩
structure ax.wf(x:ax):Prop where
 ak:x.ak.length≤maxLen∧(∀y∈x.ak,aD.wf y)
 eH:x.eH.length≤maxLen∧(∀y∈x.eH,aG.wf y)
theorem ax.dec{m:Nat}{cs:List PV}(h:Shape te m 91 cs):∃x:ax,cs=x.enc∧x.wf:=by
 obtain⟨hl,ago,hf⟩:=bY (t:=91) h rfl
 match cs,hl with
 | [c0,c1],_=>
  have h0:Shape te ago 88 [c0]:=hf (0,88) (by simp);obtain⟨r0,e,w0,k0,g0⟩:=dz (t:=88) h0 rfl;cases e;obtain⟨v0,e,u0⟩:=gC (f:=aD.enc) (p:=aD.wf) (fun r hr=>aD.dec (m:=k0) hr) g0;subst e;have h1:Shape te ago 89 [c1]:=hf (1,89) (by simp);obtain⟨r1,e,w1,k1,g1⟩:=dz (t:=89) h1 rfl;cases e;obtain⟨v1,e,u1⟩:=gC (f:=aG.enc) (p:=aG.wf) (fun r hr=>aG.dec (m:=k1) hr) g1;subst e;exact⟨⟨v0,v1⟩,rfl,⟨⟨by simpa using w0,u0⟩,⟨by simpa using w1,u1⟩⟩⟩
structure aI.wf(x:aI):Prop where
 bm:x.bm.length≤maxLen∧(∀y∈x.bm,ba.wf y)
 ai:x.ai.length≤maxLen∧(∀y∈x.ai,ax.wf y)
theorem aI.dec{m:Nat}{cs:List PV}(h:Shape te m 86 cs):∃x:aI,cs=x.enc∧x.wf:=by
 obtain⟨hl,ago,hf⟩:=bY (t:=86) h rfl
 match cs,hl with
 | [c0,c1],_=>
  have h0:Shape te ago 83 [c0]:=hf (0,83) (by simp);obtain⟨r0,e,w0,k0,g0⟩:=dz (t:=83) h0 rfl;cases e;obtain⟨v0,e,u0⟩:=gC (f:=ba.enc) (p:=ba.wf) (fun r hr=>ba.dec (m:=k0) hr) g0;subst e;have h1:Shape te ago 84 [c1]:=hf (1,84) (by simp);obtain⟨r1,e,w1,k1,g1⟩:=dz (t:=84) h1 rfl;cases e;obtain⟨v1,e,u1⟩:=gC (f:=ax.enc) (p:=ax.wf) (fun r hr=>ax.dec (m:=k1) hr) g1;subst e;exact⟨⟨v0,v1⟩,rfl,⟨⟨by simpa using w0,u0⟩,⟨by simpa using w1,u1⟩⟩⟩
structure aj.wf(x:aj):Prop where
 ID:cP.wf x.ID
 bC:cy.wf x.bC
 Length:iO x.Length
 dO:iO x.dO
 bS:iO x.bS
 cF:iO x.cF
 Jump:iO x.Jump
 lX:iO x.lX
 AS:iO x.AS
 Break:iO x.Break
 jE:x.jE.length≤maxLen
 iq:x.iq.length≤maxLen∧(∀y∈x.iq,cN.wf y)
 Cells:x.Cells.length≤maxLen∧(∀y∈x.Cells,aI.wf y)
theorem aj.dec{m:Nat}{cs:List PV}(h:Shape te m 82 cs):∃x:aj,cs=x.enc∧x.wf:=by
 obtain⟨hl,ago,hf⟩:=bY (t:=82) h rfl
 match cs,hl with
 | [c0,c1,c2,c3,c4,c5,c6,c7,c8,c9,c10,c11,c12,c13,c14,c15,c16,c17,c18,c19,c20,c21],_=>
  have h0:Shape te ago 70 [c0,c1]:=hf (0,70) (by simp);obtain⟨v0,e0,u0⟩:=cP.dec h0;unfold cP.enc at e0;simp only[List.cons.injEq,and_true]at e0;obtain⟨rfl,rfl⟩:=e0;have h2:Shape te ago 51 [c2,c3,c4,c5,c6,c7,c8,c9]:=hf (2,51) (by simp);obtain⟨v2,e2,u2⟩:=cy.dec h2;unfold cy.enc at e2;simp only[List.cons.injEq,and_true]at e2;obtain⟨rfl,rfl,rfl,rfl,rfl,rfl,rfl,rfl⟩:=e2;have pV:Shape te ago 3 [c10]:=hf (10,3) (by simp);obtain⟨v10,e,p10,q10⟩:=aZ (t:=3) pV rfl;cases e;have K7:Shape te ago 3 [c11]:=hf (11,3) (by simp);obtain⟨v11,e,p11,q11⟩:=aZ (t:=3) K7 rfl;cases e;have Wf:Shape te ago 4 [c12]:=hf (12,4) (by simp);obtain⟨Ia,e⟩:=l5 (t:=4) Wf rfl;cases e;have h13:Shape te ago 3 [c13]:=hf (13,3) (by simp);obtain⟨Lf,e,p13,q13⟩:=aZ (t:=3) h13 rfl;cases e;have h14:Shape te ago 3 [c14]:=hf (14,3) (by simp);obtain⟨Pl,e,p14,q14⟩:=aZ (t:=3) h14 rfl;cases e;have Zz:Shape te ago 3 [c15]:=hf (15,3) (by simp);obtain⟨XO,e,p15,q15⟩:=aZ (t:=3) Zz rfl;cases e;have h16:Shape te ago 3 [c16]:=hf (16,3) (by simp);obtain⟨XP,e,p16,q16⟩:=aZ (t:=3) h16 rfl;cases e;have h17:Shape te ago 3 [c17]:=hf (17,3) (by simp);obtain⟨XQ,e,p17,q17⟩:=aZ (t:=3) h17 rfl;cases e;have h18:Shape te ago 3 [c18]:=hf (18,3) (by simp);obtain⟨v18,e,p18,q18⟩:=aZ (t:=3) h18 rfl;cases e;have ZA:Shape te ago 9 [c19]:=hf (19,9) (by simp);obtain⟨v19,e,w19⟩:=qQ (t:=9) ZA rfl;cases e;have h20:Shape te ago 79 [c20]:=hf (20,79) (by simp);obtain⟨r20,e,w20,k20,g20⟩:=dz (t:=79) h20 rfl;cases e;obtain⟨v20,e,u20⟩:=gC (f:=cN.enc) (p:=cN.wf) (fun r hr=>cN.dec (m:=k20) hr) g20;subst e;have ZB:Shape te ago 80 [c21]:=hf (21,80) (by simp);obtain⟨r21,e,w21,k21,g21⟩:=dz (t:=80) ZB rfl;cases e;obtain⟨v21,e,u21⟩:=gC (f:=aI.enc) (p:=aI.wf) (fun r hr=>aI.dec (m:=k21) hr) g21;subst e;exact⟨⟨v0,v2,v10,v11,Ia,Lf,Pl,XO,XP,XQ,v18,v19,v20,v21⟩,rfl,⟨u0,u2,dt p10 q10,dt p11 q11,dt p13 q13,dt p14 q14,dt p15 q15,dt p16 q16,dt p17 q17,dt p18 q18,w19,⟨by simpa using w20,u20⟩,⟨by simpa using w21,u21⟩⟩⟩
structure br.wf(x:br):Prop where
 ID:cP.wf x.ID
 Kind:iO x.Kind
 dR:cP.wf x.dR
 To:cP.wf x.To
theorem br.dec{m:Nat}{cs:List PV}(h:Shape te m 117 cs):∃x:br,cs=x.enc∧x.wf:=by
 obtain⟨hl,ago,hf⟩:=bY (t:=117) h rfl
 match cs,hl with
 | [c0,c1,c2,c3,c4,c5,c6],_=>
  have h0:Shape te ago 70 [c0,c1]:=hf (0,70) (by simp);obtain⟨v0,e0,u0⟩:=cP.dec h0;unfold cP.enc at e0;simp only[List.cons.injEq,and_true]at e0;obtain⟨rfl,rfl⟩:=e0;have h2:Shape te ago 3 [c2]:=hf (2,3) (by simp);obtain⟨v2,e,p2,q2⟩:=aZ (t:=3) h2 rfl;cases e;have h3:Shape te ago 70 [c3,c4]:=hf (3,70) (by simp);obtain⟨v3,e3,u3⟩:=cP.dec h3;unfold cP.enc at e3;simp only[List.cons.injEq,and_true]at e3;obtain⟨rfl,rfl⟩:=e3;have h5:Shape te ago 70 [c5,c6]:=hf (5,70) (by simp);obtain⟨v5,e5,u5⟩:=cP.dec h5;unfold cP.enc at e5;simp only[List.cons.injEq,and_true]at e5;obtain⟨rfl,rfl⟩:=e5;exact⟨⟨v0,v2,v3,v5⟩,rfl,⟨u0,dt p2 q2,u3,u5⟩⟩
structure ae.wf(x:ae):Prop where
 yu:x.yu.length≤maxLen
 ay:x.ay.length≤maxLen∧(∀y∈x.ay,cf.wf y)
 aa:x.aa.length≤maxLen∧(∀y∈x.aa,aj.wf y)
 au:x.au.length≤maxLen∧(∀y∈x.au,br.wf y)
 fB:x.fB.length≤maxLen∧(∀y∈x.fB,cP.wf y)
theorem ae.dec{m:Nat}{cs:List PV}(h:Shape te m 27 cs):∃x:ae,cs=x.enc∧x.wf:=by
 obtain⟨hl,ago,hf⟩:=bY (t:=27) h rfl
 match cs,hl with
 | [c0,c1,c2,c3,c4,c5],_=>
  have h0:Shape te ago 9 [c0]:=hf (0,9) (by simp);obtain⟨v0,e,w0⟩:=qQ (t:=9) h0 rfl;cases e;have h1:Shape te ago 4 [c1]:=hf (1,4) (by simp);obtain⟨v1,e⟩:=l5 (t:=4) h1 rfl;cases e;have h2:Shape te ago 22 [c2]:=hf (2,22) (by simp);obtain⟨r2,e,w2,k2,g2⟩:=dz (t:=22) h2 rfl;cases e;obtain⟨v2,e,u2⟩:=gC (f:=cf.enc) (p:=cf.wf) (fun r hr=>cf.dec (m:=k2) hr) g2;subst e;have h3:Shape te ago 23 [c3]:=hf (3,23) (by simp);obtain⟨r3,e,w3,k3,g3⟩:=dz (t:=23) h3 rfl;cases e;obtain⟨v3,e,u3⟩:=gC (f:=aj.enc) (p:=aj.wf) (fun r hr=>aj.dec (m:=k3) hr) g3;subst e;have h4:Shape te ago 24 [c4]:=hf (4,24) (by simp);obtain⟨r4,e,w4,k4,g4⟩:=dz (t:=24) h4 rfl;cases e;obtain⟨v4,e,u4⟩:=gC (f:=br.enc) (p:=br.wf) (fun r hr=>br.dec (m:=k4) hr) g4;subst e;have h5:Shape te ago 25 [c5]:=hf (5,25) (by simp);obtain⟨r5,e,w5,k5,g5⟩:=dz (t:=25) h5 rfl;cases e;obtain⟨v5,e,u5⟩:=gC (f:=cP.enc) (p:=cP.wf) (fun r hr=>cP.dec (m:=k5) hr) g5;subst e;exact⟨⟨v0,v1,v2,v3,v4,v5⟩,rfl,⟨w0,⟨by simpa using w2,u2⟩,⟨by simpa using w3,u3⟩,⟨by simpa using w4,u4⟩,⟨by simpa using w5,u5⟩⟩⟩
end Go.Hm
set_option maxRecDepth 4096
namespace Go.Hm
open Go.Proofs
def JJ(f:FuncId)(args:List AV)(ext:List er)(r:AV)(ext':List er):Prop:=fA Tryz.prog te f args ext r ext'
theorem JJ.intro{f:FuncId}{fn:Func}{c:Code}(hf:Tryz.prog.funcs[f]? =some fn)(Ep:(fn.name== "runtime.NumGoroutine")=false)(hb:fn.body=some c)(cq:codeOk fn.ntmps c=true)
  {args:List AV} {ext ext':List er} {r:AV} (hle:Nat.ble args.length fn.ntmps=true) (h:oK te JJ c (St.enter args ext) (pB te fn.results.toList ext.length (fun agf bs=>agf=r∧bs=ext'))):JJ f args ext r ext':=
 fA.intro H4 GC hf Ep hb cq hle h
theorem JJ.yk{f:FuncId}{fn:Func}{c:Code}(hf:Tryz.prog.funcs[f]? =some fn)(Ep:(fn.name== "runtime.NumGoroutine")=false)(hb:fn.body=some c)(cq:codeOk fn.ntmps c=true)
  {args:List AV} {ext ext':List er} {r:AV} (hle:Nat.ble args.length fn.ntmps=true) (h:oK te JJ c (St.enter args ext) (pB te fn.results.toList ext.length (fun agf bs=>agf.lf=r∧bs=ext'))):JJ f args ext r ext':=
 fA.yk H4 GC hf Ep hb cq hle h
abbrev nI(n:Int):AV:= .p (.int .i64 n)
abbrev nB(b:Bool):AV:= .p (.bool b)
theorem wrap_i64{x:Int}(h: -9223372036854775808≤x)(agl:x≤9223372036854775807):IntKind.i64.wrap x=x:=by
 unfold IntKind.wrap IntKind.bits IntKind.signed;simp only[Bool.true_and,decide_eq_true_eq];have e1:(2:Int)^64=18446744073709551616:=by decide
 have e2:(2:Int)^(64-1)=9223372036854775808:=by decide
 rw[e1,e2];split<;>omega
theorem ao{α:Type}[Inhabited α](f:α→List PV)(l:List α)(k:Nat)(h:k<l.length):0≤(k:Int)∧(l.map f)[(k:Int).toNat]? =some (f (l.getD k default)):=by
 refine⟨by omega,?_⟩;simp[List.getElem?_eq_getElem h,List.getD_eq_getElem?_getD]
theorem cZ{α:Type}[Inhabited α](f:α→List PV)(l:List α)(i:Int)(h0:0≤i)(h:i<l.length):0≤i∧(l.map f)[i.toNat]? =some (f (l.getD i.toNat default)):=by
 refine⟨h0,?_⟩;have:i.toNat<l.length:=by omega
 simp[List.getElem?_eq_getElem this,List.getD_eq_getElem?_getD]
theorem al{α β:Type}(f:α→β)(l:List α):((l.map f).length:Int)=l.length:=by simp
theorem aX(b c:Bool):(bif b then true else c)=(b||c):=by cases b<;>rfl
theorem aR(b c:Bool):(bif b then c else false)=(b&&c):=by cases b<;>rfl
theorem ab{t:Bool}{A B:Prop}(h1:t=true→A)(h2:t=false→B):(t=true→A)∧(t=false→B):=⟨h1,h2⟩
open Go.Proofs
def eT.ok(v:eT):Bool:=decide (-1≤v.Log)&&decide (v.Log≤8)&&decide (0≤v.nh)&&decide (v.nh≤3)
theorem Ib(v:eT):JJ 145 [.agg v.enc] [] (nI (if v.ok then 0 else 17)) []:=by
 refine JJ.intro Tryz.func145 rfl rfl rfl rfl ?_;refine ab (fun h=>?_) (fun h=>?_)
 ·have e:v.ok=false:=by simp at h;simp[eT.ok];omega
  rw[e];exact⟨rfl,rfl⟩
 ·have e:v.ok=true:=by simp at h;simp[eT.ok];omega
  rw[e];exact⟨rfl,rfl⟩
theorem ir(n low high:Int):JJ 78 [nI n,nI low,nI high] [] (nB (decide (low≤n)&&decide (n≤high))) []:=by
 refine JJ.intro Tryz.func78 rfl rfl rfl rfl ?_;refine And.intro ?_ rfl;cases h:decide (n≥low)<;>simp_all
theorem T9(n:Int):JJ 63 [nI n] [] (nI (if decide (-7≤n)&&decide (n≤7)then 0 else 2)) []:=by
 refine JJ.intro Tryz.func63 rfl rfl rfl rfl ?_;refine ab (fun h=>?_) (fun h=>?_)
 ·have e:(decide (-7≤n)&&decide (n≤7))=false:=by simp at h ⊢;omega
  rw[e];exact⟨rfl,rfl⟩
 ·have e:(decide (-7≤n)&&decide (n≤7))=true:=by simp at h ⊢;omega
  rw[e];exact⟨rfl,rfl⟩
theorem xg(t:aG):JJ 218 [.agg t.enc] [] (nI (IntKind.i64.wrap (t.cg+t.Count))) []:=by
 refine JJ.intro Tryz.func218 rfl rfl rfl rfl ?_;refine⟨_,rfl,?_⟩;exact⟨rfl,rfl⟩
theorem Ic(n:Int):JJ 219 [nI n] [] (nB (decide (1≤n)&&decide (n≤32))) []:=by
 refine JJ.intro Tryz.func219 rfl rfl rfl rfl ?_;refine And.intro ?_ rfl;cases h:decide (n≥1)<;>simp_all
def vp(a b:aG):Int:=if a.cg≠b.cg then(if a.cg<b.cg then-1 else 1)else if a.Count≠b.Count then(if a.Count>b.Count then-1 else 1)else 0
theorem Qd(a b:aG):JJ 220 [.agg a.enc,.agg b.enc] [] (nI (vp a b)) []:=by
 refine JJ.intro Tryz.func220 rfl rfl rfl rfl ?_;unfold vp;refine ab (fun h=>?_) (fun h=>?_)
 ·have h:a.cg≠b.cg:=by simpa using h
  rw[if_pos h];refine ab (fun h=>?_) (fun h=>?_)
  ·rw[if_pos (of_decide_eq_true h)];exact⟨rfl,rfl⟩
  ·rw[if_neg (of_decide_eq_false h)];exact⟨rfl,rfl⟩
 ·have h:¬a.cg≠b.cg:=by simpa using h
  rw[if_neg h];refine ab (fun h=>?_) (fun h=>?_)
  ·have h:a.Count≠b.Count:=by simpa using h
   rw[if_pos h];refine ab (fun h=>?_) (fun h=>?_)
   ·rw[if_pos (of_decide_eq_true h)];exact⟨rfl,rfl⟩
   ·rw[if_neg (of_decide_eq_false h)];exact⟨rfl,rfl⟩
  ·have h:¬a.Count≠b.Count:=by simpa using h
   rw[if_neg h];exact⟨rfl,rfl⟩
def aG.has(t:aG)(k:Int):Bool:=decide (t.cg≤k)&&decide (k-t.cg<t.Count)
theorem Qe(t:aG)(k:Int)(h1:iO k)(h2:0≤t.cg):JJ 223 [.agg t.enc,nI k] [] (nB (t.has k)) []:=by
 refine JJ.intro Tryz.func223 rfl rfl rfl rfl ?_;refine⟨k-t.cg,fun h=>wrap_i64 (by have:=h1;unfold iO at this;simp at h;omega) (by have:=h1;unfold iO at this;simp at h;omega),?_⟩
 ·refine And.intro ?_ rfl;unfold aG.has;cases h:decide (k≥t.cg)<;>simp_all
theorem Qf(a b:Int)(ha:0≤a)(hb:0≤b):JJ 224 [nI a,nI b] [] (nI (Int.gcd a b)) []:=by
 refine JJ.intro Tryz.func224 rfl rfl rfl rfl ?_;refine⟨[0,1],[],fun n S=>∃x y:Int,0≤x∧0≤y∧n=y.toNat∧Int.gcd x y=Int.gcd a b∧S=St.mk' [(0,nI x),(1,nI y)] [],⟨_,a,b,ha,hb,rfl,rfl,rfl⟩,?_⟩;rintro n S ⟨x,y,hx,hy,rfl,hg,rfl⟩;refine ab (fun h=>?_) (fun h=>?_)
 ·have h:y>0:=of_decide_eq_true h;refine⟨rfl,?_⟩;refine⟨_,⟨by omega,rfl⟩,?_⟩;have hm:=Int.emod_nonneg x (show y≠0 by omega);have hl:=Int.emod_lt_of_pos x h;have ht:x.tmod y=x%y:=Int.tmod_eq_emod_of_nonneg hx;refine⟨(x%y).toNat,by omega,y,x%y,hy,hm,rfl,?_,?_⟩
  ·rw[←hg,Int.emod_def,Int.gcd_comm x y];simp
  ·rw[←ht];rfl
 ·have h:¬y>0:=of_decide_eq_false h;obtain rfl:y=0:=by omega
  refine⟨?_,rfl⟩;rw[←hg];simp;omega
open Go.Proofs
def wB:List PV:= [.int .i64 0,.int .i64 2,.int .i64 4,.int .i64 5,.int .i64 7,.int .i64 9,.int .i64 11]
def Ko(n:Int):Int:=if n=0 then 0 else if n=1 then 2 else if n=2 then 4 else if n=3 then 5 else if n=4 then 7 else if n=5 then 9 else 11
theorem Qg:JJ 128 [] [] (.agg wB) []:=by
 refine JJ.intro Tryz.func128 rfl rfl rfl rfl ?_;refine⟨rfl,?_⟩;exact⟨rfl,rfl⟩
theorem Qh{n:Int}(h1:0≤n)(h2:n≤6):wB[n.toNat*1]? =some (.int .i64 (Ko n)):=by
 obtain rfl | rfl | rfl | rfl | rfl | rfl | rfl:n=0∨n=1∨n=2∨n=3∨n=4∨n=5∨n=6:=by omega
 all_goals rfl
theorem MV(n:Int):0≤Ko n∧Ko n≤11:=by
 unfold Ko
 repeat' split
 all_goals omega
def aH.num(p:aH):Int:=12*(p.eU+1)+Ko p.Step+p.gJ
def aH.pre(p:aH):Bool:=decide (0≤p.Step)&&decide (p.Step≤6)&&decide (-2≤p.gJ)&&decide (p.gJ≤2)&&decide (-1≤p.eU)&&decide (p.eU≤9)
def aH.ok(p:aH):Bool:=p.pre&&decide (0≤p.num)&&decide (p.num≤127)
theorem aH.CF{p:aH} :p.pre=true↔0≤p.Step∧p.Step≤6∧ -2≤p.gJ∧p.gJ≤2∧ -1≤p.eU∧p.eU≤9:=by
 simp[aH.pre];omega
theorem MW(p:aH)(h:p.pre=true):JJ 73 [.agg p.enc] [] (nI p.num) []:=by
 refine JJ.intro Tryz.func73 rfl rfl rfl rfl ?_;obtain⟨h1,h2,h3,h4,h5,h6⟩:=aH.CF.1 h;have hs:=MV p.Step;refine⟨rfl,?_⟩;refine⟨_,wrap_i64 (by omega) (by omega),?_⟩;refine⟨_,wrap_i64 (by omega) (by omega),?_⟩;refine⟨_,Qg,?_⟩;refine⟨[.int .i64 (Ko p.Step)],⟨h1,by omega,_,Qh h1 h2,rfl⟩,?_⟩;refine⟨_,wrap_i64 (by omega) (by omega),?_⟩;refine⟨_,wrap_i64 (by omega) (by omega),?_⟩;exact⟨rfl,rfl⟩
theorem Ua(p:aH):JJ 72 [.agg p.enc] [] (nI (if p.ok then 0 else 18)) []:=by
 refine JJ.intro Tryz.func72 rfl rfl rfl rfl ?_;refine ab (fun h=>?_) (fun h=>?_)
 ·have e:p.pre=false:=by
   cases hp:p.pre with
   | false=>rfl
   | true=>have:=aH.CF.1 hp;simp at h;omega
  have e:p.ok=false:=by simp[aH.ok,e]
  rw[e];exact⟨rfl,rfl⟩
 ·have hp:p.pre=true:=aH.CF.2 (by simp at h;omega);refine⟨_,MW p hp,?_⟩;refine ab (fun h=>?_) (fun h=>?_)
  ·have e:p.ok=false:=by simp at h;simp[aH.ok];omega
   rw[e];exact⟨rfl,rfl⟩
  ·have e:p.ok=true:=by simp at h;simp[aH.ok,hp];omega
   rw[e];exact⟨rfl,rfl⟩
theorem aH.Ub{p:aH}(h:p.ok=true):p.pre=true:=by
 unfold aH.ok at h;simp only[Bool.and_eq_true]at h;exact h.1.1
theorem yH(p:aH):JJ 41 [.agg p.enc] [] (.dE [nI (if p.ok then p.num else 0),nI (if p.ok then 0 else 18)]) []:=by
 refine JJ.intro Tryz.func41 rfl rfl rfl rfl ?_;refine⟨_,Ua p,?_⟩;cases hp:p.ok with
 | false=>
  refine ab (fun h=>?_) (fun h=>?_)
  ·exact⟨rfl,rfl⟩
  ·simp at h
 | true=>
  refine ab (fun h=>?_) (fun h=>?_)
  ·simp at h
  ·refine⟨_,MW p (aH.Ub hp),?_⟩;exact⟨rfl,rfl⟩
theorem Ie(n:Int):JJ 142 [nI n] [] (nB (decide (1≤n)&&decide (n≤4))) []:=by
 refine JJ.intro Tryz.func142 rfl rfl rfl rfl ?_;refine And.intro ?_ rfl;cases h:decide (n≥1)<;>simp_all
theorem iI(n m:Int):JJ 141 [nI n,nI m] [] (nI (if decide (0≤n)&&decide (n≤m)then 0 else 2)) []:=by
 refine JJ.intro Tryz.func141 rfl rfl rfl rfl ?_;refine ab (fun h=>?_) (fun h=>?_)
 ·have e:(decide (0≤n)&&decide (n≤m))=false:=by simp at h ⊢;omega
  rw[e];exact⟨rfl,rfl⟩
 ·have e:(decide (0≤n)&&decide (n≤m))=true:=by simp at h ⊢;omega
  rw[e];exact⟨rfl,rfl⟩
def aW:List Int→Int
 | []=>0
 | e::r=>if e≠0 then e else aW r
theorem rC{l:List Int}{k:Nat}(h:k<l.length):aW (l.drop k)=if l.getD k default≠0 then l.getD k default else aW (l.drop (k+1)):=by
 rw[List.drop_eq_getElem_cons h,aW,List.getD_eq_getElem?_getD,List.getElem?_eq_getElem h];rfl
theorem tV(l:List Int)(hl:l.length≤1000000):JJ 140 [.p (.sl 1 (l.map cB))] [] (nI (aW l)) []:=by
 refine JJ.intro Tryz.func140 rfl rfl rfl rfl ?_;refine⟨_,al _ _,?_⟩;refine⟨[5,6,7],[],fun n S=>∃k:Nat,k≤l.length∧n=l.length-k∧aW (l.drop k)=aW l∧S=St.mk' [(5,.p (.sl 1 (l.map cB))),(6,nI l.length),(7,nI k)] [],⟨_,0,by omega,rfl,rfl,rfl⟩,?_⟩;rintro n S ⟨k,hk,rfl,hf,rfl⟩;refine ab (fun h=>?_) (fun h=>?_)
 ·have h:=of_decide_eq_true h;have b9:k<l.length:=by omega
  rw[rC b9]at hf;refine⟨_,ao _ _ _ b9,?_⟩;refine ab (fun h=>?_) (fun h=>?_)
  ·have h:l.getD k default≠0:=by simpa using h
   rw[if_pos h]at hf;rw[←hf];exact⟨rfl,rfl⟩
  ·have h:¬l.getD k default≠0:=by simpa using h
   rw[if_neg h]at hf;refine⟨_,wrap_i64 (by omega) (by omega),?_⟩;exact⟨_,by omega,k+1,by omega,rfl,hf,rfl⟩
 ·have h:=of_decide_eq_false h;obtain rfl:k=l.length:=by omega
  rw[List.drop_length]at hf;rw[←hf];exact⟨rfl,rfl⟩
open Go.Proofs
theorem fK{α:Type}[Inhabited α]{l m:List α}{k:Nat}(h1:k<l.length)(h2:k<m.length):l.take (k+1)=m.take (k+1)↔l.take k=m.take k∧l.getD k default=m.getD k default:=by
 rw[List.take_succ_eq_append_getElem h1,List.take_succ_eq_append_getElem h2,List.getD_eq_getElem?_getD,List.getD_eq_getElem?_getD,List.getElem?_eq_getElem h1,List.getElem?_eq_getElem h2];constructor
 ·intro h;have h3:=List.append_inj h (by rw[List.length_take,List.length_take];omega);exact⟨h3.1,by simpa using h3.2⟩
 ·intro h;simp only[Option.getD_some]at h;rw[h.1,h.2]
theorem iu{α:Type}{l m:List α}(h1:l.length=m.length)(h2:l.take l.length=m.take l.length):l=m:=by
 rw[List.take_length,h1,List.take_length]at h2;exact h2
theorem iv{α:Type}[Inhabited α]{l m:List α}{k:Nat}(h:l.getD k default≠m.getD k default):l≠m:=fun e=>h (by rw[e])
theorem aS.nj{a b:aS}(h:a.aB.Step=b.aB.Step∧a.aB.gJ=b.aB.gJ∧a.aB.eU=b.aB.eU∧a.dQ=b.dQ∧a.Show=b.Show):a=b:=by
 obtain⟨⟨_,_,_⟩,_,_⟩:=a;obtain⟨⟨_,_,_⟩,_,_⟩:=b;simp only at h;simp_all
theorem Qi(l m:List aS)(hl:l.length≤maxLen):JJ 183 [.p (.sl 5 (l.map aS.enc)),.p (.sl 5 (m.map aS.enc))] [] (nB (decide (l=m))) []:=by
 refine JJ.intro Tryz.func183 rfl rfl rfl rfl ?_;have fw:maxLen≤9223372036854775807:=by decide
 refine⟨_,al _ _,?_⟩;refine⟨_,al _ _,?_⟩;refine ab (fun h=>?_) (fun h=>?_)
 ·have e:decide (l=m)=false:=by
   rw[decide_eq_false_iff_not];intro e;subst e;simp at h
  rw[e];exact⟨rfl,rfl⟩
 ·have GU:l.length=m.length:=by simp at h;omega
  refine⟨_,al _ _,?_⟩;refine⟨[0,1,12,13],[],fun n S=>∃k:Nat,k≤l.length∧n=l.length-k∧l.take k=m.take k∧S=St.mk' [(0,.p (.sl 5 (l.map aS.enc))),(1,.p (.sl 5 (m.map aS.enc))),(12,nI l.length),(13,nI k)] [],⟨_,0,by omega,rfl,rfl,rfl⟩,?_⟩;rintro n S ⟨k,hk,rfl,hf,rfl⟩;refine ab (fun h=>?_) (fun h=>?_)
  ·have h:=of_decide_eq_true h;have ph:k<l.length:=by omega
   have jJ:k<m.length:=by omega
   refine⟨rfl,?_⟩;refine⟨_,ao _ _ _ ph,?_⟩;refine⟨_,ao _ _ _ jJ,?_⟩;refine ab (fun h=>?_) (fun h=>?_)
   ·have h2:l.getD k default≠m.getD k default:=by
     intro e;rw[e]at h;simp at h
    have e:decide (l=m)=false:=decide_eq_false (iv h2);rw[e];exact⟨rfl,rfl⟩
   ·have h2:l.getD k default=m.getD k default:=aS.nj (by simpa using h);refine⟨_,wrap_i64 (by omega) (by omega),?_⟩;exact⟨_,by omega,k+1,by omega,rfl,(fK ph jJ).2 ⟨hf,h2⟩,rfl⟩
  ·have h:=of_decide_eq_false h;obtain rfl:k=l.length:=by omega
   have e:decide (l=m)=true:=decide_eq_true (iu GU hf);rw[e];exact⟨rfl,rfl⟩
theorem bE.nj{a b:bE}(h:a.aB.Step=b.aB.Step∧a.aB.gJ=b.aB.gJ∧a.aB.eU=b.aB.eU∧a.Log=b.Log∧a.My=b.My):a=b:=by
 obtain⟨⟨_,_,_⟩,_,_⟩:=a;obtain⟨⟨_,_,_⟩,_,_⟩:=b;simp only at h;simp_all
theorem Qj(l m:List bE)(hl:l.length≤maxLen):JJ 184 [.p (.sl 5 (l.map bE.enc)),.p (.sl 5 (m.map bE.enc))] [] (nB (decide (l=m))) []:=by
 refine JJ.intro Tryz.func184 rfl rfl rfl rfl ?_;have fw:maxLen≤9223372036854775807:=by decide
 refine⟨_,al _ _,?_⟩;refine⟨_,al _ _,?_⟩;refine ab (fun h=>?_) (fun h=>?_)
 ·have e:decide (l=m)=false:=by
   rw[decide_eq_false_iff_not];intro e;subst e;simp at h
  rw[e];exact⟨rfl,rfl⟩
 ·have GU:l.length=m.length:=by simp at h;omega
  refine⟨_,al _ _,?_⟩;refine⟨[0,1,12,13],[],fun n S=>∃k:Nat,k≤l.length∧n=l.length-k∧l.take k=m.take k∧S=St.mk' [(0,.p (.sl 5 (l.map bE.enc))),(1,.p (.sl 5 (m.map bE.enc))),(12,nI l.length),(13,nI k)] [],⟨_,0,by omega,rfl,rfl,rfl⟩,?_⟩;rintro n S ⟨k,hk,rfl,hf,rfl⟩;refine ab (fun h=>?_) (fun h=>?_)
  ·have h:=of_decide_eq_true h;have ph:k<l.length:=by omega
   have jJ:k<m.length:=by omega
   refine⟨rfl,?_⟩;refine⟨_,ao _ _ _ ph,?_⟩;refine⟨_,ao _ _ _ jJ,?_⟩;refine ab (fun h=>?_) (fun h=>?_)
   ·have h2:l.getD k default≠m.getD k default:=by
     intro e;rw[e]at h;simp at h
    have e:decide (l=m)=false:=decide_eq_false (iv h2);rw[e];exact⟨rfl,rfl⟩
   ·have h2:l.getD k default=m.getD k default:=bE.nj (by simpa using h);refine⟨_,wrap_i64 (by omega) (by omega),?_⟩;exact⟨_,by omega,k+1,by omega,rfl,(fK ph jJ).2 ⟨hf,h2⟩,rfl⟩
  ·have h:=of_decide_eq_false h;obtain rfl:k=l.length:=by omega
   have e:decide (l=m)=true:=decide_eq_true (iu GU hf);rw[e];exact⟨rfl,rfl⟩
theorem aU.nj{a b:aU}(h:a.Text=b.Text∧a.kG=b.kG):a=b:=by
 obtain⟨_,_⟩:=a;obtain⟨_,_⟩:=b;simp only at h;simp_all
theorem Qk(l m:List aU)(hl:l.length≤maxLen):JJ 185 [.p (.sl 2 (l.map aU.enc)),.p (.sl 2 (m.map aU.enc))] [] (nB (decide (l=m))) []:=by
 refine JJ.intro Tryz.func185 rfl rfl rfl rfl ?_;have fw:maxLen≤9223372036854775807:=by decide
 refine⟨_,al _ _,?_⟩;refine⟨_,al _ _,?_⟩;refine ab (fun h=>?_) (fun h=>?_)
 ·have e:decide (l=m)=false:=by
   rw[decide_eq_false_iff_not];intro e;subst e;simp at h
  rw[e];exact⟨rfl,rfl⟩
 ·have GU:l.length=m.length:=by simp at h;omega
  refine⟨_,al _ _,?_⟩;refine⟨[0,1,12,13],[],fun n S=>∃k:Nat,k≤l.length∧n=l.length-k∧l.take k=m.take k∧S=St.mk' [(0,.p (.sl 2 (l.map aU.enc))),(1,.p (.sl 2 (m.map aU.enc))),(12,nI l.length),(13,nI k)] [],⟨_,0,by omega,rfl,rfl,rfl⟩,?_⟩;rintro n S ⟨k,hk,rfl,hf,rfl⟩;refine ab (fun h=>?_) (fun h=>?_)
  ·have h:=of_decide_eq_true h;have ph:k<l.length:=by omega
   have jJ:k<m.length:=by omega
   refine⟨rfl,?_⟩;refine⟨_,ao _ _ _ ph,?_⟩;refine⟨_,ao _ _ _ jJ,?_⟩;refine ab (fun h=>?_) (fun h=>?_)
   ·have h2:l.getD k default≠m.getD k default:=by
     intro e;rw[e]at h;simp at h
    have e:decide (l=m)=false:=decide_eq_false (iv h2);rw[e];exact⟨rfl,rfl⟩
   ·have h2:l.getD k default=m.getD k default:=aU.nj (by simpa using h);refine⟨_,wrap_i64 (by omega) (by omega),?_⟩;exact⟨_,by omega,k+1,by omega,rfl,(fK ph jJ).2 ⟨hf,h2⟩,rfl⟩
  ·have h:=of_decide_eq_false h;obtain rfl:k=l.length:=by omega
   have e:decide (l=m)=true:=decide_eq_true (iu GU hf);rw[e];exact⟨rfl,rfl⟩
theorem bD.nj{a b:bD}(h:a.fq=b.fq∧a.dO=b.dO∧a.bC.Count=b.bC.Count∧a.bC.Unit=b.bC.Unit∧a.bC.lu=b.bC.lu∧a.bC.lv=b.bC.lv∧a.bC.lx=b.bC.lx∧a.bC.ly=b.bC.ly∧a.bC.lz=b.bC.lz∧a.bC.lA=b.bC.lA):a=b:=by
 obtain⟨_,_,⟨_,_,_,_,_,_,_,_⟩⟩:=a;obtain⟨_,_,⟨_,_,_,_,_,_,_,_⟩⟩:=b;simp only at h;simp_all
theorem Uc(l m:List bD)(hl:l.length≤maxLen):JJ 16 [.p (.sl 10 (l.map bD.enc)),.p (.sl 10 (m.map bD.enc))] [] (nB (decide (l=m))) []:=by
 refine JJ.intro Tryz.func16 rfl rfl rfl rfl ?_;have fw:maxLen≤9223372036854775807:=by decide
 refine⟨_,al _ _,?_⟩;refine⟨_,al _ _,?_⟩;refine ab (fun h=>?_) (fun h=>?_)
 ·have e:decide (l=m)=false:=by
   rw[decide_eq_false_iff_not];intro e;subst e;simp at h
  rw[e];exact⟨rfl,rfl⟩
 ·have GU:l.length=m.length:=by simp at h;omega
  refine⟨_,al _ _,?_⟩;refine⟨[0,1,12,13],[],fun n S=>∃k:Nat,k≤l.length∧n=l.length-k∧l.take k=m.take k∧S=St.mk' [(0,.p (.sl 10 (l.map bD.enc))),(1,.p (.sl 10 (m.map bD.enc))),(12,nI l.length),(13,nI k)] [],⟨_,0,by omega,rfl,rfl,rfl⟩,?_⟩;rintro n S ⟨k,hk,rfl,hf,rfl⟩;refine ab (fun h=>?_) (fun h=>?_)
  ·have h:=of_decide_eq_true h;have ph:k<l.length:=by omega
   have jJ:k<m.length:=by omega
   refine⟨rfl,?_⟩;refine⟨_,ao _ _ _ ph,?_⟩;refine⟨_,ao _ _ _ jJ,?_⟩;refine ab (fun h=>?_) (fun h=>?_)
   ·have h2:l.getD k default≠m.getD k default:=by
     intro e;rw[e]at h;simp at h
    have e:decide (l=m)=false:=decide_eq_false (iv h2);rw[e];exact⟨rfl,rfl⟩
   ·have h2:l.getD k default=m.getD k default:=bD.nj (by simpa using h);refine⟨_,wrap_i64 (by omega) (by omega),?_⟩;exact⟨_,by omega,k+1,by omega,rfl,(fK ph jJ).2 ⟨hf,h2⟩,rfl⟩
  ·have h:=of_decide_eq_false h;obtain rfl:k=l.length:=by omega
   have e:decide (l=m)=true:=decide_eq_true (iu GU hf);rw[e];exact⟨rfl,rfl⟩
theorem dX.nj{a b:dX}(h:a.cj=b.cj∧a.aB.Step=b.aB.Step∧a.aB.gJ=b.aB.gJ∧a.aB.eU=b.aB.eU):a=b:=by
 obtain⟨_,⟨_,_,_⟩⟩:=a;obtain⟨_,⟨_,_,_⟩⟩:=b;simp only at h;simp_all
theorem Ud(l m:List dX)(hl:l.length≤maxLen):JJ 17 [.p (.sl 4 (l.map dX.enc)),.p (.sl 4 (m.map dX.enc))] [] (nB (decide (l=m))) []:=by
 refine JJ.intro Tryz.func17 rfl rfl rfl rfl ?_;have fw:maxLen≤9223372036854775807:=by decide
 refine⟨_,al _ _,?_⟩;refine⟨_,al _ _,?_⟩;refine ab (fun h=>?_) (fun h=>?_)
 ·have e:decide (l=m)=false:=by
   rw[decide_eq_false_iff_not];intro e;subst e;simp at h
  rw[e];exact⟨rfl,rfl⟩
 ·have GU:l.length=m.length:=by simp at h;omega
  refine⟨_,al _ _,?_⟩;refine⟨[0,1,12,13],[],fun n S=>∃k:Nat,k≤l.length∧n=l.length-k∧l.take k=m.take k∧S=St.mk' [(0,.p (.sl 4 (l.map dX.enc))),(1,.p (.sl 4 (m.map dX.enc))),(12,nI l.length),(13,nI k)] [],⟨_,0,by omega,rfl,rfl,rfl⟩,?_⟩;rintro n S ⟨k,hk,rfl,hf,rfl⟩;refine ab (fun h=>?_) (fun h=>?_)
  ·have h:=of_decide_eq_true h;have ph:k<l.length:=by omega
   have jJ:k<m.length:=by omega
   refine⟨rfl,?_⟩;refine⟨_,ao _ _ _ ph,?_⟩;refine⟨_,ao _ _ _ jJ,?_⟩;refine ab (fun h=>?_) (fun h=>?_)
   ·have h2:l.getD k default≠m.getD k default:=by
     intro e;rw[e]at h;simp at h
    have e:decide (l=m)=false:=decide_eq_false (iv h2);rw[e];exact⟨rfl,rfl⟩
   ·have h2:l.getD k default=m.getD k default:=dX.nj (by simpa using h);refine⟨_,wrap_i64 (by omega) (by omega),?_⟩;exact⟨_,by omega,k+1,by omega,rfl,(fK ph jJ).2 ⟨hf,h2⟩,rfl⟩
  ·have h:=of_decide_eq_false h;obtain rfl:k=l.length:=by omega
   have e:decide (l=m)=true:=decide_eq_true (iu GU hf);rw[e];exact⟨rfl,rfl⟩
theorem cr.nj{a b:cr}(h:a.Kind=b.Kind∧a.dR.bc=b.dR.bc∧a.dR.At=b.dR.At∧a.dR.bA=b.dR.bA∧a.dR.cj=b.dR.cj∧a.To.bc=b.To.bc∧a.To.At=b.To.At∧a.To.bA=b.To.bA∧a.To.cj=b.To.cj):a=b:=by
 obtain⟨_,⟨_,_,_,_⟩,⟨_,_,_,_⟩⟩:=a;obtain⟨_,⟨_,_,_,_⟩,⟨_,_,_,_⟩⟩:=b;simp only at h;simp_all
theorem Ue(l m:List cr)(hl:l.length≤maxLen):JJ 18 [.p (.sl 9 (l.map cr.enc)),.p (.sl 9 (m.map cr.enc))] [] (nB (decide (l=m))) []:=by
 refine JJ.intro Tryz.func18 rfl rfl rfl rfl ?_;have fw:maxLen≤9223372036854775807:=by decide
 refine⟨_,al _ _,?_⟩;refine⟨_,al _ _,?_⟩;refine ab (fun h=>?_) (fun h=>?_)
 ·have e:decide (l=m)=false:=by
   rw[decide_eq_false_iff_not];intro e;subst e;simp at h
  rw[e];exact⟨rfl,rfl⟩
 ·have GU:l.length=m.length:=by simp at h;omega
  refine⟨_,al _ _,?_⟩;refine⟨[0,1,12,13],[],fun n S=>∃k:Nat,k≤l.length∧n=l.length-k∧l.take k=m.take k∧S=St.mk' [(0,.p (.sl 9 (l.map cr.enc))),(1,.p (.sl 9 (m.map cr.enc))),(12,nI l.length),(13,nI k)] [],⟨_,0,by omega,rfl,rfl,rfl⟩,?_⟩;rintro n S ⟨k,hk,rfl,hf,rfl⟩;refine ab (fun h=>?_) (fun h=>?_)
  ·have h:=of_decide_eq_true h;have ph:k<l.length:=by omega
   have jJ:k<m.length:=by omega
   refine⟨rfl,?_⟩;refine⟨_,ao _ _ _ ph,?_⟩;refine⟨_,ao _ _ _ jJ,?_⟩;refine ab (fun h=>?_) (fun h=>?_)
   ·have h2:l.getD k default≠m.getD k default:=by
     intro e;rw[e]at h;simp at h
    have e:decide (l=m)=false:=decide_eq_false (iv h2);rw[e];exact⟨rfl,rfl⟩
   ·have h2:l.getD k default=m.getD k default:=cr.nj (by simpa using h);refine⟨_,wrap_i64 (by omega) (by omega),?_⟩;exact⟨_,by omega,k+1,by omega,rfl,(fK ph jJ).2 ⟨hf,h2⟩,rfl⟩
  ·have h:=of_decide_eq_false h;obtain rfl:k=l.length:=by omega
   have e:decide (l=m)=true:=decide_eq_true (iu GU hf);rw[e];exact⟨rfl,rfl⟩
theorem Uf(l m:List Int)(hl:l.length≤maxLen):JJ 14 [.p (.sl 1 (l.map cB)),.p (.sl 1 (m.map cB))] [] (nB (decide (l=m))) []:=by
 refine JJ.intro Tryz.func14 rfl rfl rfl rfl ?_;have fw:maxLen≤9223372036854775807:=by decide
 refine⟨_,al _ _,?_⟩;refine⟨_,al _ _,?_⟩;refine ab (fun h=>?_) (fun h=>?_)
 ·have e:decide (l=m)=false:=by
   rw[decide_eq_false_iff_not];intro e;subst e;simp at h
  rw[e];exact⟨rfl,rfl⟩
 ·have GU:l.length=m.length:=by simp at h;omega
  refine⟨_,al _ _,?_⟩;refine⟨[0,1,12,13],[],fun n S=>∃k:Nat,k≤l.length∧n=l.length-k∧l.take k=m.take k∧S=St.mk' [(0,.p (.sl 1 (l.map cB))),(1,.p (.sl 1 (m.map cB))),(12,nI l.length),(13,nI k)] [],⟨_,0,by omega,rfl,rfl,rfl⟩,?_⟩;rintro n S ⟨k,hk,rfl,hf,rfl⟩;refine ab (fun h=>?_) (fun h=>?_)
  ·have h:=of_decide_eq_true h;have ph:k<l.length:=by omega
   have jJ:k<m.length:=by omega
   refine⟨rfl,?_⟩;refine⟨_,ao _ _ _ ph,?_⟩;refine⟨_,ao _ _ _ jJ,?_⟩;refine ab (fun h=>?_) (fun h=>?_)
   ·have h2:l.getD k default≠m.getD k default:=by
     intro e;rw[e]at h;simp at h
    have e:decide (l=m)=false:=decide_eq_false (iv h2);rw[e];exact⟨rfl,rfl⟩
   ·have h2:l.getD k default=m.getD k default:=by simpa using h
    refine⟨_,wrap_i64 (by omega) (by omega),?_⟩;exact⟨_,by omega,k+1,by omega,rfl,(fK ph jJ).2 ⟨hf,h2⟩,rfl⟩
  ·have h:=of_decide_eq_false h;obtain rfl:k=l.length:=by omega
   have e:decide (l=m)=true:=decide_eq_true (iu GU hf);rw[e];exact⟨rfl,rfl⟩
open Go.Proofs
theorem Ig(n:Int):JJ 186 [nI n] [] (nI (if n<0 then 0 else rn .i64 n 16)) []:=by
 refine JJ.intro Tryz.func186 rfl rfl rfl rfl ?_;refine ab (fun h=>?_) (fun h=>?_)
 ·rw[if_pos (of_decide_eq_true h)];exact⟨rfl,rfl⟩
 ·rw[if_neg (of_decide_eq_false h)];refine⟨_,rfl,?_⟩;exact⟨rfl,rfl⟩
theorem Ql(x:aU):JJ 190 [.agg x.enc] [] (nB (decide (x=⟨[],0⟩))) []:=by
 refine JJ.intro Tryz.func190 rfl rfl rfl rfl ?_;refine And.intro ?_ rfl;congr 2;obtain⟨t,n⟩:=x;cases h1:decide (t= [])<;>cases h2:decide (n=0)<;>simp_all
theorem CG(p:aH):JJ 188 [.agg p.enc] [] (.dE [nI (if p.ok then p.num else 0),nI (if p.ok then 0 else 18)]) []:=by
 refine JJ.intro Tryz.func188 rfl rfl rfl rfl ?_;refine⟨_,yH p,?_⟩;cases hp:p.ok with
 | false=>
  refine ab (fun h=>?_) (fun h=>?_)
  ·exact⟨rfl,rfl⟩
  ·simp at h
 | true=>
  refine ab (fun h=>?_) (fun h=>?_)
  ·unfold aH.ok at hp;simp at h hp;omega
  ·exact⟨rfl,rfl⟩
def pc(n m:Int):Int:=if decide (0≤n)&&decide (n≤m)then 0 else 2
def aS.err(h:aS):Int:=aW [if h.aB.ok then 0 else 18,pc h.Show 2]
theorem Qm(h:aS):JJ 187 [.agg h.enc] [] (nI h.err) []:=by
 refine JJ.intro Tryz.func187 rfl rfl rfl rfl ?_;refine⟨_,CG h.aB,?_⟩;refine⟨_,iI h.Show 2,?_⟩;refine⟨_,tV [_,_] (by simp),?_⟩;exact⟨rfl,rfl⟩
theorem aS.Ug{h:aS}(e:h.err=0):h.aB.ok=true:=by
 cases hp:h.aB.ok with
 | true=>rfl
 | false=>simp[aS.err,aW,hp]at e
def jS(last:Int):List aS→Int
 | []=>0
 | h::r=>if h.err≠0 then h.err else if h.aB.num≤last then 25 else jS h.aB.num r
theorem z4{l:List aS}{k:Nat}(last:Int)(h:k<l.length):jS last (l.drop k)=if(l.getD k default).err≠0 then(l.getD k default).err else if(l.getD k default).aB.num≤last then 25 else jS (l.getD k default).aB.num (l.drop (k+1)):=by
 rw[List.drop_eq_getElem_cons h,jS,List.getD_eq_getElem?_getD,List.getElem?_eq_getElem h];rfl
def jh(l:List aS):Int:=if l.length=0 then 4 else if l.length>10 then 9 else jS (-1) l
theorem Qn(l:List aS)(hl:l.length≤maxLen):JJ 146 [.p (.sl 5 (l.map aS.enc))] [] (nI (jh l)) []:=by
 refine JJ.intro Tryz.func146 rfl rfl rfl rfl ?_;have fw:maxLen≤9223372036854775807:=by decide
 unfold jh;refine⟨_,al _ _,?_⟩;refine ab (fun h=>?_) (fun h=>?_)
 ·have h:l.length=0:=by simpa using h
  rw[if_pos h];exact⟨rfl,rfl⟩
 ·have h:¬l.length=0:=by simpa using h
  rw[if_neg h];refine⟨_,al _ _,?_⟩;refine ab (fun h=>?_) (fun h=>?_)
  ·have h:l.length>10:=by have:=of_decide_eq_true h;omega
   rw[if_pos h];exact⟨rfl,rfl⟩
  ·have h:¬l.length>10:=by have:=of_decide_eq_false h;omega
   rw[if_neg h];refine⟨_,al _ _,?_⟩;refine⟨[3,17,18,19],[],fun n S=>∃(k:Nat) (last:Int),k≤l.length∧n=l.length-k∧jS last (l.drop k)=jS (-1) l∧S=St.mk' [(3,nI last),(17,.p (.sl 5 (l.map aS.enc))),(18,nI l.length),(19,nI k)] [],⟨_,0,-1,by omega,rfl,rfl,rfl⟩,?_⟩;rintro n S ⟨k,last,hk,rfl,hf,rfl⟩;refine ab (fun h=>?_) (fun h=>?_)
   ·have h:=of_decide_eq_true h;have b9:k<l.length:=by omega
    rw[z4 last b9]at hf;refine⟨_,ao _ _ _ b9,?_⟩;refine⟨rfl,?_⟩;refine⟨_,Qm (l.getD k default),?_⟩;refine ab (fun h=>?_) (fun h=>?_)
    ·have h:(l.getD k default).err≠0:=by simpa using h
     rw[if_pos h]at hf;rw[←hf];exact⟨rfl,rfl⟩
    ·have h:¬(l.getD k default).err≠0:=by simpa using h
     rw[if_neg h]at hf;have cq:(l.getD k default).aB.ok=true:=aS.Ug (Decidable.not_not.1 h);refine⟨_,CG (l.getD k default).aB,?_⟩;rw[cq];refine ab (fun h=>?_) (fun h=>?_)
     ·have h:(l.getD k default).aB.num≤last:=by simpa using h
      rw[if_pos h]at hf;rw[←hf];exact⟨rfl,rfl⟩
     ·have h:¬(l.getD k default).aB.num≤last:=by simpa using h
      rw[if_neg h]at hf;refine⟨_,wrap_i64 (by omega) (by omega),?_⟩;exact⟨_,by omega,k+1,_,by omega,rfl,hf,rfl⟩
   ·have h:=of_decide_eq_false h;obtain rfl:k=l.length:=by omega
    rw[List.drop_length]at hf;rw[←hf];exact⟨rfl,rfl⟩
def bE.err(g:bE):Int:=if g.aB.ok then(if decide (1≤g.Log)&&decide (g.Log≤6)then 0 else 2)else 18
def km(l:List bE):Int:=if l.length>8 then 9 else aW (l.map bE.err)
theorem qb{α:Type}[Inhabited α]{f:α→Int}{l:List α}{k:Nat}(h:k<l.length):aW ((l.drop k).map f)=if f (l.getD k default)≠0 then f (l.getD k default)else aW ((l.drop (k+1)).map f):=by
 rw[List.drop_eq_getElem_cons h,List.map_cons,aW,List.getD_eq_getElem?_getD,List.getElem?_eq_getElem h];rfl
theorem Qo(l:List bE)(hl:l.length≤maxLen):JJ 147 [.p (.sl 5 (l.map bE.enc))] [] (nI (km l)) []:=by
 refine JJ.intro Tryz.func147 rfl rfl rfl rfl ?_;have fw:maxLen≤9223372036854775807:=by decide
 unfold km;refine⟨_,al _ _,?_⟩;refine ab (fun h=>?_) (fun h=>?_)
 ·have h:l.length>8:=by have:=of_decide_eq_true h;omega
  rw[if_pos h];exact⟨rfl,rfl⟩
 ·have h:¬l.length>8:=by have:=of_decide_eq_false h;omega
  rw[if_neg h];refine⟨_,al _ _,?_⟩;refine⟨[10,11,12],[],fun n S=>∃(k:Nat),k≤l.length∧n=l.length-k∧aW ((l.drop k).map bE.err)=aW (l.map bE.err)∧S=St.mk' [(10,.p (.sl 5 (l.map bE.enc))),(11,nI l.length),(12,nI k)] [],⟨_,0,by omega,rfl,rfl,rfl⟩,?_⟩;rintro n S ⟨k,hk,rfl,hf,rfl⟩;refine ab (fun h=>?_) (fun h=>?_)
  ·have h:=of_decide_eq_true h;have b9:k<l.length:=by omega
   rw[qb b9]at hf;refine⟨_,ao _ _ _ b9,?_⟩;refine⟨rfl,?_⟩;refine⟨_,CG (l.getD k default).aB,?_⟩;cases hp:(l.getD k default).aB.ok with
   | false=>
    have e:(l.getD k default).err=18:=by unfold bE.err;rw[hp];rfl
    refine ab (fun h=>?_) (fun h=>?_)
    ·rw[e,if_pos (by omega)]at hf;rw[←hf];exact⟨rfl,rfl⟩
    ·simp at h
   | true=>
    have e:(l.getD k default).err=(if decide (1≤(l.getD k default).Log)&&decide ((l.getD k default).Log≤6)then 0 else 2):=by unfold bE.err;rw[hp];rfl
    refine ab (fun h=>?_) (fun h=>?_)
    ·simp at h
    ·refine ab (fun h=>?_) (fun h=>?_)
     ·have h2:(decide (1≤(l.getD k default).Log)&&decide ((l.getD k default).Log≤6))=false:=by simp at h ⊢;omega
      rw[e,h2]at hf;rw[←hf];exact⟨rfl,rfl⟩
     ·have h2:(decide (1≤(l.getD k default).Log)&&decide ((l.getD k default).Log≤6))=true:=by simp at h ⊢;omega
      rw[e,h2]at hf;refine⟨_,wrap_i64 (by omega) (by omega),?_⟩;exact⟨_,by omega,k+1,by omega,rfl,hf,rfl⟩
  ·have h:=of_decide_eq_false h;obtain rfl:k=l.length:=by omega
   rw[List.drop_length]at hf;rw[←hf];exact⟨rfl,rfl⟩
open Go.Proofs
def tW(b:UInt8):Bool:=decide (((b.toNat:Nat):Int)<32)||(((b.toNat:Nat):Int)==127)
def aU.err(x:aU):Int:=
 if decide (x.kG<0)||decide (2<x.kG)then 2 else if x.Text.length>256 then 5 else if x.Text.any tW then 6 else if x.Text= []∧x.kG=1 then 3 else 0
theorem EN{α:Type}[Inhabited α]{p:α→Bool}{l:List α}{k:Nat}(d:α)(h:k<l.length):(l.drop k).any p=(p (l.getD k d)||(l.drop (k+1)).any p):=by
 rw[List.drop_eq_getElem_cons h,List.any_cons,List.getD_eq_getElem?_getD,List.getElem?_eq_getElem h];rfl
theorem Qp(x:aU):JJ 189 [.agg x.enc] [] (nI x.err) []:=by
 refine JJ.intro Tryz.func189 rfl rfl rfl rfl ?_;unfold aU.err;refine ab (fun h=>?_) (fun h=>?_)
 ·have e:(decide (x.kG<0)||decide (2<x.kG))=true:=by simp at h ⊢;omega
  rw[e];exact⟨rfl,rfl⟩
 ·have e:(decide (x.kG<0)||decide (2<x.kG))=false:=by simp at h ⊢;omega
  rw[e];simp only[Bool.false_eq_true,if_false];refine ab (fun h=>?_) (fun h=>?_)
  ·have h:x.Text.length>256:=by have:=of_decide_eq_true h;omega
   rw[if_pos h];exact⟨rfl,rfl⟩
  ·have h:¬x.Text.length>256:=by have:=of_decide_eq_false h;omega
   rw[if_neg h];refine⟨[1,20,21],[.own 1],fun n S=>∃(k:Nat),k≤x.Text.length∧n=x.Text.length-k∧(x.Text.drop k).any tW=x.Text.any tW∧S=St.mk' [(1,.ptr (.own 1) 0),(20,nI x.Text.length),(21,nI k)] [(.own 1,.pure 137 x.enc)],⟨_,0,by omega,rfl,rfl,rfl⟩,?_⟩;rintro n S ⟨k,hk,rfl,hf,rfl⟩;refine ab (fun h=>?_) (fun h=>?_)
   ·have h:=of_decide_eq_true h;have b9:k<x.Text.length:=by omega
    rw[EN 0 b9]at hf;refine⟨⟨by omega,by omega⟩,?_⟩;refine⟨fun _=>⟨by omega,by omega⟩,?_⟩;refine ab (fun h=>?_) (fun h=>?_)
    ·have e:tW (x.Text.getD k 0)=true:=by
      have h2:(bif decide ((((x.Text.getD k 0).toNat:Nat):Int)<32)then true else((((x.Text.getD k 0).toNat:Nat):Int)==127))=true:=h;rw[aX]at h2;exact h2
     rw[e,Bool.true_or]at hf;rw[←hf];exact⟨rfl,rfl⟩
    ·have e:tW (x.Text.getD k 0)=false:=by
      have h2:(bif decide ((((x.Text.getD k 0).toNat:Nat):Int)<32)then true else((((x.Text.getD k 0).toNat:Nat):Int)==127))=false:=h;rw[aX]at h2;exact h2
     rw[e,Bool.false_or]at hf;refine⟨_,wrap_i64 (by omega) (by omega),?_⟩;exact⟨_,by omega,k+1,by omega,rfl,hf,rfl⟩
   ·have h:=of_decide_eq_false h;obtain rfl:k=x.Text.length:=by omega
    rw[List.drop_length]at hf;rw[←hf];simp only[List.any_nil,Bool.false_eq_true,if_false];refine ab (fun h=>?_) (fun h=>?_)
    ·have e:x.Text= []∧x.kG=1:=by
      revert h;show(bif(x.Text== [])then _ else _)=true→_;cases hx:x.Text== []<;>simp_all
     rw[if_pos e];exact⟨rfl,rfl⟩
    ·have e:¬(x.Text= []∧x.kG=1):=by
      revert h;show(bif(x.Text== [])then _ else _)=false→_;cases hx:x.Text== []<;>simp_all
     rw[if_neg e];exact⟨rfl,rfl⟩
open Go.Proofs
def xh(l:List aU):aU:=l.getD ((l.length:Int)-1).toNat default
def kn(l:List aU):Int:=
 if l.length>4 then 9 else if aW (l.map aU.err)≠0 then aW (l.map aU.err)else if(bif decide ((l.length:Int)>0)then decide (xh l=⟨[],0⟩)else false)=true then 3 else 0
theorem Qq(l:List aU)(hl:l.length≤maxLen):JJ 148 [.p (.sl 2 (l.map aU.enc))] [] (nI (kn l)) []:=by
 refine JJ.intro Tryz.func148 rfl rfl rfl rfl ?_;have fw:maxLen≤9223372036854775807:=by decide
 unfold kn;refine⟨_,al _ _,?_⟩;refine ab (fun h=>?_) (fun h=>?_)
 ·have h:l.length>4:=by have:=of_decide_eq_true h;omega
  rw[if_pos h];exact⟨rfl,rfl⟩
 ·have h:¬l.length>4:=by have:=of_decide_eq_false h;omega
  rw[if_neg h];refine⟨_,al _ _,?_⟩;refine⟨[0,10,11,12],[],fun n S=>∃(k:Nat),k≤l.length∧n=l.length-k∧aW ((l.drop k).map aU.err)=aW (l.map aU.err)∧S=St.mk' [(0,.p (.sl 2 (l.map aU.enc))),(10,.p (.sl 2 (l.map aU.enc))),(11,nI l.length),(12,nI k)] [],⟨_,0,by omega,rfl,rfl,rfl⟩,?_⟩;rintro n S ⟨k,hk,rfl,hf,rfl⟩;refine ab (fun h=>?_) (fun h=>?_)
  ·have h:=of_decide_eq_true h;have b9:k<l.length:=by omega
   rw[qb b9]at hf;refine⟨_,ao _ _ _ b9,?_⟩;refine⟨rfl,?_⟩;refine⟨_,Qp (l.getD k default),?_⟩;refine ab (fun h=>?_) (fun h=>?_)
   ·have h:(l.getD k default).err≠0:=by simpa using h
    rw[if_pos h]at hf;rw[←hf,if_pos h];exact⟨rfl,rfl⟩
   ·have h:¬(l.getD k default).err≠0:=by simpa using h
    rw[if_neg h]at hf;refine⟨_,wrap_i64 (by omega) (by omega),?_⟩;exact⟨_,by omega,k+1,by omega,rfl,hf,rfl⟩
  ·have h:=of_decide_eq_false h;obtain rfl:k=l.length:=by omega
   rw[List.drop_length]at hf;have hf:aW (l.map aU.err)=0:=hf.symm;rw[hf];simp only[ne_eq,not_true_eq_false,if_false];refine⟨_,al _ _,?_⟩;refine⟨(l.length:Int)-1,fun _=>wrap_i64 (by omega) (by omega),?_⟩;refine⟨_,fun h=>cZ _ _ _ (by have:=of_decide_eq_true h;omega) (by omega),?_⟩;refine⟨_,fun _=>Ql (xh l),?_⟩;refine ab (fun h=>?_) (fun h=>?_)
   ·have h:(bif decide ((l.length:Int)>0)then decide (xh l=⟨[],0⟩)else false)=true:=h;rw[if_pos h];exact⟨rfl,rfl⟩
   ·have h:(bif decide ((l.length:Int)>0)then decide (xh l=⟨[],0⟩)else false)=false:=h;rw[h];exact⟨rfl,rfl⟩
def kindOk(n:Int):Bool:=decide (1≤n)&&decide (n≤4)
def aD.strip(e:aD):aD:=
 if(bif(e.Kind==1)then true else !kindOk e.Kind)=true then e
 else {ID:=e.ID,Kind:=e.Kind,Value:=if e.Kind≠3 then e.Value else⟨0,0⟩,aE:= [],cQ:= [],cT:=if e.Kind≠4 then(if e.cT<0 then 0 else rn .i64 e.cT 16)else 0,jQ:=0,Dynamic:=e.Dynamic,bz:= [],Co:=0,Cp:=0}
theorem Qr(e:aD):JJ 144 [.agg e.enc] [] (.agg e.strip.enc) []:=by
 refine JJ.intro Tryz.func144 rfl rfl rfl rfl ?_;unfold aD.strip;refine⟨_,fun _=>Ie e.Kind,?_⟩;refine ab (fun h=>?_) (fun h=>?_)
 ·have h:(bif(e.Kind==1)then true else !kindOk e.Kind)=true:=h;rw[if_pos h];refine⟨rfl,?_⟩;exact⟨rfl,rfl⟩
 ·have h:(bif(e.Kind==1)then true else !kindOk e.Kind)=false:=h;rw[if_neg (by rw[h];simp)];refine⟨rfl,?_⟩;refine ab (fun h=>?_) (fun h=>?_)
  ·have h3:e.Kind≠3:=by simpa using h
   refine ab (fun h=>?_) (fun h=>?_)
   ·have h4:e.Kind≠4:=by simpa using h
    refine⟨_,Ig e.cT,?_⟩;refine⟨rfl,?_⟩;rw[if_pos h3,if_pos h4];exact⟨rfl,rfl⟩
   ·have h4:¬e.Kind≠4:=by simpa using h
    refine⟨rfl,?_⟩;rw[if_pos h3,if_neg h4];exact⟨rfl,rfl⟩
  ·have h3:¬e.Kind≠3:=by simpa using h
   have afW:e.Kind=3:=by omega
   refine ab (fun h=>?_) (fun h=>?_)
   ·have h4:e.Kind≠4:=by simpa using h
    refine⟨_,Ig e.cT,?_⟩;refine⟨rfl,?_⟩;rw[if_neg h3,if_pos h4];exact⟨rfl,rfl⟩
   ·have h4:¬e.Kind≠4:=by simpa using h
    omega
end Go.Hm
set_option maxRecDepth 512
namespace Go.Hm
open Go.Proofs
def mR(a b:aD):Bool:=
 bif(bif(bif(bif(bif(bif(bif(bif(bif(a.Kind==b.Kind)then(a.Value.Log==b.Value.Log&&a.Value.nh==b.Value.nh)else false)then(a.cT==b.cT)else false)then(a.jQ==b.jQ)else false)then(a.Dynamic==b.Dynamic)else false)
  then(a.Co==b.Co)else false)then(a.Cp==b.Cp)else false)then decide (a.aE=b.aE)else false)then decide (a.cQ=b.cQ)else false)then decide (a.bz=b.bz)else false
set_option maxRecDepth 10000 in
theorem Qs(a b:aD)(h1:a.aE.length≤maxLen)(h2:a.cQ.length≤maxLen)(h3:a.bz.length≤maxLen):JJ 143 [.agg a.enc,.agg b.enc] [] (nB (mR a b)) []:=by
 refine JJ.intro Tryz.func143 rfl rfl rfl rfl ?_;refine⟨_,fun _=>Qi a.aE b.aE h1,?_⟩;refine⟨_,fun _=>Qj a.cQ b.cQ h2,?_⟩;refine⟨_,fun _=>Qk a.bz b.bz h3,?_⟩;exact⟨rfl,rfl⟩
def MX(e:aD):Int:=aW [pc e.cT 31,pc e.jQ 4,pc e.Dynamic 9,pc e.Co 2,pc e.Cp 2]
def GV(e:aD):Int:=
 if e.Kind=1 then(if aW [jh e.aE,km e.cQ,kn e.bz]≠0 then aW [jh e.aE,km e.cQ,kn e.bz]else MX e)else MX e
def aD.err(e:aD):Int:=
 if aW [pc e.ID.Site 99,pc e.ID.Number 1073741824]≠0 then aW [pc e.ID.Site 99,pc e.ID.Number 1073741824]
 else if kindOk e.Kind=false then 11 else if mR e e.strip=false then 3 else if(bif(e.Kind !=3)then((if e.Value.ok then(0:Int)else 17)!=0)else false)=true then 17 else GV e
set_option maxRecDepth 10000 in
theorem vq(e:aD)(h1:e.aE.length≤maxLen)(h2:e.cQ.length≤maxLen)(h3:e.bz.length≤maxLen):JJ 92 [.agg e.enc] [] (nI e.err) []:=by
 refine JJ.intro Tryz.func92 rfl rfl rfl rfl ?_;unfold aD.err;refine⟨rfl,?_⟩;refine⟨_,iI e.ID.Site 99,?_⟩;refine⟨_,iI e.ID.Number 1073741824,?_⟩;refine⟨_,tV [_,_] (by simp),?_⟩;refine ab (fun h=>?_) (fun h=>?_)
 ·have h:aW [pc e.ID.Site 99,pc e.ID.Number 1073741824]≠0:=by simpa using(show(aW [pc e.ID.Site 99,pc e.ID.Number 1073741824]!=0)=true from h)
  rw[if_pos h];exact⟨rfl,rfl⟩
 ·have h:¬aW [pc e.ID.Site 99,pc e.ID.Number 1073741824]≠0:=by simpa using(show(aW [pc e.ID.Site 99,pc e.ID.Number 1073741824]!=0)=false from h)
  rw[if_neg h];refine⟨_,Ie e.Kind,?_⟩;refine ab (fun h=>?_) (fun h=>?_)
  ·have h:kindOk e.Kind=false:=by simpa using(show(!kindOk e.Kind)=true from h)
   rw[if_pos h];exact⟨rfl,rfl⟩
  ·have h:kindOk e.Kind=true:=by simpa using(show(!kindOk e.Kind)=false from h)
   rw[if_neg (show ¬(kindOk e.Kind=false)by rw[h];simp)];refine⟨rfl,?_⟩;refine⟨_,Qr e,?_⟩;refine⟨_,Qs e e.strip h1 h2 h3,?_⟩;refine ab (fun h=>?_) (fun h=>?_)
   ·have h:mR e e.strip=false:=by simpa using(show(!mR e e.strip)=true from h)
    rw[if_pos h];exact⟨rfl,rfl⟩
   ·have h:mR e e.strip=true:=by simpa using(show(!mR e e.strip)=false from h)
    rw[if_neg (show ¬(mR e e.strip=false)by rw[h];simp)];refine⟨_,fun _=>Ib e.Value,?_⟩;refine ab (fun h=>?_) (fun h=>?_)
    ·have h:(bif(e.Kind !=3)then((if e.Value.ok then(0:Int)else 17)!=0)else false)=true:=h;rw[if_pos h];exact⟨rfl,rfl⟩
    ·have h:(bif(e.Kind !=3)then((if e.Value.ok then(0:Int)else 17)!=0)else false)=false:=h;rw[if_neg (show ¬((bif(e.Kind !=3)then((if e.Value.ok then(0:Int)else 17)!=0)else false)=true)by rw[h];simp)];unfold GV;refine ab (fun h=>?_) (fun h=>?_)
     ·have h:e.Kind=1:=by simpa using h
      rw[if_pos h];refine⟨rfl,?_⟩;refine⟨_,Qn e.aE h1,?_⟩;refine⟨_,Qo e.cQ h2,?_⟩;refine⟨_,Qq e.bz h3,?_⟩;refine⟨_,tV [_,_,_] (by simp),?_⟩;refine ab (fun h=>?_) (fun h=>?_)
      ·have h:aW [jh e.aE,km e.cQ,kn e.bz]≠0:=by simpa using h
       rw[if_pos h];exact⟨rfl,rfl⟩
      ·have h:¬aW [jh e.aE,km e.cQ,kn e.bz]≠0:=by simpa using h
       rw[if_neg h];refine⟨rfl,?_⟩;refine⟨_,iI e.cT 31,?_⟩;refine⟨_,iI e.jQ 4,?_⟩;refine⟨_,iI e.Dynamic 9,?_⟩;refine⟨_,iI e.Co 2,?_⟩;refine⟨_,iI e.Cp 2,?_⟩;refine⟨_,tV [_,_,_,_,_] (by simp),?_⟩;exact⟨rfl,rfl⟩
     ·have h:¬e.Kind=1:=by simpa using h
      rw[if_neg h];refine⟨rfl,?_⟩;refine⟨_,iI e.cT 31,?_⟩;refine⟨_,iI e.jQ 4,?_⟩;refine⟨_,iI e.Dynamic 9,?_⟩;refine⟨_,iI e.Co 2,?_⟩;refine⟨_,iI e.Cp 2,?_⟩;refine⟨_,tV [_,_,_,_,_] (by simp),?_⟩;exact⟨rfl,rfl⟩
end Go.Hm
set_option maxRecDepth 4096
namespace Go.Hm
open Go.Proofs
def GW:Nat→Int→Int→Int
 | 0,_,s=>s
 | n+1,p,s=>GW n (p.tdiv 2) (s+p.tdiv 2)
def vt(log:Int):Int:=DL .i64 3870720 (log+1)
def eT.wC(v:eT):Int:=GW v.nh.toNat (vt v.Log) (vt v.Log)
theorem eT.MY{v:eT} :v.ok=true↔ -1≤v.Log∧v.Log≤8∧0≤v.nh∧v.nh≤3:=by
 simp[eT.ok];omega
theorem GX{log:Int}(h1: -1≤log)(h2:log≤8):0<vt log∧vt log≤3870720:=by
 obtain rfl | rfl | rfl | rfl | rfl | rfl | rfl | rfl | rfl | rfl:log= -1∨log=0∨log=1∨log=2∨log=3∨log=4∨log=5∨log=6∨log=7∨log=8:=by omega
 all_goals decide+kernel
theorem Qt(v:eT)(h:v.ok=true):JJ 222 [.agg v.enc] [] (nI v.wC) []:=by
 refine JJ.intro Tryz.func222 rfl rfl rfl rfl ?_;obtain⟨h1,h2,h3,h4⟩:=eT.MY.1 h;obtain⟨p1,p2⟩:=GX h1 h2;refine⟨_,wrap_i64 (by omega) (by omega),?_⟩;refine⟨_,⟨by omega,rfl⟩,?_⟩;refine⟨[3,4,11,12],[],fun n S=>∃(k:Nat) (p s:Int),(k:Int)≤v.nh∧n=v.nh.toNat-k∧0≤p∧p≤3870720∧0≤s∧s≤3870720*(k+1)∧GW (v.nh.toNat-k) p s=v.wC∧S=St.mk' [(3,nI p),(4,nI s),(11,nI v.nh),(12,nI k)] [],
  ⟨_,0,vt v.Log,vt v.Log,by simpa using h3,rfl,by omega,by omega,by omega,by omega,rfl,rfl⟩,?_⟩
 rintro n S ⟨k,p,s,hk,rfl,iH,kl,gY,kf,hf,rfl⟩;refine ab (fun h=>?_) (fun h=>?_)
 ·have h:(k:Int)<v.nh:=of_decide_eq_true h;have TA:0≤p.tdiv 2:=Int.tdiv_nonneg iH (by omega);have Sr:p.tdiv 2≤p:=by
   rw[Int.tdiv_eq_ediv_of_nonneg iH];omega
  refine⟨p.tdiv 2,⟨by omega,wrap_i64 (by omega) (by omega)⟩,?_⟩;refine⟨s+p.tdiv 2,wrap_i64 (by omega) (by omega),?_⟩;refine⟨_,wrap_i64 (by omega) (by omega),?_⟩;have e:v.nh.toNat-k=(v.nh.toNat-(k+1))+1:=by omega
  rw[e]at hf;exact⟨_,by omega,k+1,p.tdiv 2,s+p.tdiv 2,by omega,rfl,TA,by omega,by omega,by push_cast;omega,hf,rfl⟩
 ·have h:¬(k:Int)<v.nh:=of_decide_eq_false h;have e:v.nh.toNat-k=0:=by omega
  rw[e]at hf;have hf:s=v.wC:=hf;rw[←hf];exact⟨rfl,rfl⟩
theorem Qu(v:eT):JJ 216 [.agg v.enc] [] (.dE [nI (if v.ok then v.wC else 0),nI (if v.ok then 0 else 17)]) []:=by
 refine JJ.intro Tryz.func216 rfl rfl rfl rfl ?_;refine⟨_,Ib v,?_⟩;cases hp:v.ok with
 | false=>
  refine ab (fun h=>?_) (fun h=>?_)
  ·exact⟨rfl,rfl⟩
  ·simp at h
 | true=>
  refine ab (fun h=>?_) (fun h=>?_)
  ·simp at h
  ·refine⟨_,Qt v hp,?_⟩;exact⟨rfl,rfl⟩
theorem Wg{v:eT}(h:v.ok=true):0<v.wC∧v.wC≤7741440:=by
 obtain⟨h1,h2,h3,h4⟩:=eT.MY.1 h;obtain⟨l,d⟩:=v;simp only at h1 h2 h3 h4;obtain rfl | rfl | rfl | rfl | rfl | rfl | rfl | rfl | rfl | rfl:l= -1∨l=0∨l=1∨l=2∨l=3∨l=4∨l=5∨l=6∨l=7∨l=8:=by omega
 all_goals (obtain rfl | rfl | rfl | rfl:d=0∨d=1∨d=2∨d=3:=by omega)
 all_goals decide+kernel
open Go.Proofs
def bg{α:Type}(p:α→Bool):List α→Int
 | []=> -1
 | x::r=>if p x then 0 else if bg p r= -1 then-1 else bg p r+1
theorem dj{α:Type}(p:α→Bool)(l:List α):(bg p l= -1∧l.any p=false)∨(0≤bg p l∧bg p l<l.length∧l.any p=true):=by
 induction l with
 | nil=>exact .inl ⟨rfl,rfl⟩
 | cons x r ih=>
  unfold bg;cases hx:p x with
  | true=>exact .inr ⟨by simp,by simp,by simp[hx]⟩
  | false=>
   rcases ih with⟨h1,h2⟩ | ⟨h1,h2,h3⟩
   ·exact .inl ⟨by simp[h1],by simp[hx,h2]⟩
   ·refine .inr ⟨?_,?_,by simp[hx,h3]⟩
    ·rw[if_neg (by simp),if_neg (by omega)];omega
    ·rw[if_neg (by simp),if_neg (by omega)];simp;omega
theorem dB{α:Type}[Inhabited α]{p:α→Bool}{l:List α}{k:Nat}(h:k<l.length):bg p (l.drop k)=if p (l.getD k default)then 0 else if bg p (l.drop (k+1))= -1 then-1 else bg p (l.drop (k+1))+1:=by
 rw[List.drop_eq_getElem_cons h,bg,List.getD_eq_getElem?_getD,List.getElem?_eq_getElem h];rfl
theorem av{α:Type}[Inhabited α]{l:List α}{k:Nat}(h:k<l.length):l.getD k default∈l:=by
 rw[List.getD_eq_getElem?_getD,List.getElem?_eq_getElem h];exact List.getElem_mem h
theorem fx{α:Type}(p:α→Bool)(l:List α):decide (bg p l≥0)=l.any p:=by
 rcases dj p l with⟨h1,h2⟩ | ⟨h1,h2,h3⟩
 ·rw[h2];simp;omega
 ·rw[h3];simp;omega
def AY(b:UInt8):List PV:= [.int .u8 b.toNat]
theorem MZ{fn:FuncId}{p:aS→Bool}(l:List aS)(hl:l.length≤maxLen)(hp:∀x∈l,JJ fn [.agg x.enc] [] (nB (p x)) []):JJ 149 [.p (.sl 5 (l.map aS.enc)),.fn fn [] []] [] (nI (bg p l)) []:=by
 refine JJ.intro Tryz.func149 rfl rfl rfl rfl ?_;have fw:maxLen≤9223372036854775807:=by decide
 refine⟨_,al _ _,?_⟩;refine⟨[0,1,7,8],[],fun n S=>∃k:Nat,k≤l.length∧n=l.length-k∧(if bg p (l.drop k)= -1 then-1 else bg p (l.drop k)+k)=bg p l∧S=St.mk' [(0,.p (.sl 5 (l.map aS.enc))),(1,.fn fn [] []),(7,nI l.length),(8,nI k)] [],⟨_,0,by omega,rfl,by rw[List.drop_zero];split<;>simp_all,rfl⟩,?_⟩;rintro n S ⟨k,hk,rfl,hf,rfl⟩;refine ab (fun h=>?_) (fun h=>?_)
 ·have h:=of_decide_eq_true h;have b9:k<l.length:=by omega
  rw[dB b9]at hf;refine⟨_,ao _ _ _ b9,?_⟩;refine⟨_,hp (l.getD k default) (av b9),?_⟩;cases hx:p (l.getD k default)with
  | true=>
   refine ab (fun h=>?_) (fun h=>by cases h);rw[hx]at hf;have hf:(k:Int)=bg p l:=by rw[←hf];simp
   rw[←hf];exact⟨rfl,rfl⟩
  | false=>
   refine ab (fun h=>by cases h) (fun h=>?_);rw[hx]at hf;refine⟨_,wrap_i64 (by omega) (by omega),?_⟩;refine⟨_,by omega,k+1,by omega,rfl,?_,rfl⟩;rw[←hf];have:=dj p (l.drop (k+1));simp only[Bool.false_eq_true,if_false];by_cases h1:bg p (l.drop (k+1))= -1
   ·rw[if_pos h1,if_pos h1,if_pos rfl]
   ·rw[if_neg h1,if_neg h1,if_neg (by omega)];push_cast;omega
 ·have h:=of_decide_eq_false h;obtain rfl:k=l.length:=by omega
  rw[List.drop_length]at hf;have hf:(-1:Int)=bg p l:=hf;rw[←hf];exact⟨rfl,rfl⟩
theorem Qv{fn:FuncId}{p:aS→Bool}(l:List aS)(hl:l.length≤maxLen)(hp:∀x∈l,JJ fn [.agg x.enc] [] (nB (p x)) []):JJ 95 [.p (.sl 5 (l.map aS.enc)),.fn fn [] []] [] (nB (l.any p)) []:=by
 refine JJ.intro Tryz.func95 rfl rfl rfl rfl ?_;refine⟨_,MZ l hl hp,?_⟩;rw[←fx];exact⟨rfl,rfl⟩
theorem M0{ty:TypeId}{cs:List PV}{fn:FuncId}{p:aS→Bool}(l:List aS)(hl:l.length≤maxLen)(hp:∀x∈l,JJ fn [.agg x.enc,.ptr (.ext 0) 0] [.pure ty cs] (nB (p x)) [.pure ty cs]):JJ 149 [.p (.sl 5 (l.map aS.enc)),.fn fn [] [.ptr (.ext 0) 0]] [.pure ty cs] (nI (bg p l)) [.pure ty cs]:=by
 refine JJ.intro Tryz.func149 rfl rfl rfl rfl ?_;have fw:maxLen≤9223372036854775807:=by decide
 refine⟨_,al _ _,?_⟩;refine⟨[0,1,7,8],[.ext 0],fun n S=>∃k:Nat,k≤l.length∧n=l.length-k∧(if bg p (l.drop k)= -1 then-1 else bg p (l.drop k)+k)=bg p l∧S=St.mk' [(0,.p (.sl 5 (l.map aS.enc))),(1,.fn fn [] [.ptr (.ext 0) 0]),(7,nI l.length),(8,nI k)] [(.ext 0,.pure ty cs)],⟨_,0,by omega,rfl,by rw[List.drop_zero];split<;>simp_all,rfl⟩,?_⟩;rintro n S ⟨k,hk,rfl,hf,rfl⟩;refine ab (fun h=>?_) (fun h=>?_)
 ·have h:=of_decide_eq_true h;have b9:k<l.length:=by omega
  rw[dB b9]at hf;refine⟨_,ao _ _ _ b9,?_⟩;refine⟨_,_,hp (l.getD k default) (av b9),rfl,?_⟩;cases hx:p (l.getD k default)with
  | true=>
   refine ab (fun h=>?_) (fun h=>by cases h);rw[hx]at hf;have hf:(k:Int)=bg p l:=by rw[←hf];simp
   rw[←hf];exact⟨rfl,rfl⟩
  | false=>
   refine ab (fun h=>by cases h) (fun h=>?_);rw[hx]at hf;refine⟨_,wrap_i64 (by omega) (by omega),?_⟩;refine⟨_,by omega,k+1,by omega,rfl,?_,rfl⟩;rw[←hf];have:=dj p (l.drop (k+1));simp only[Bool.false_eq_true,if_false];by_cases h1:bg p (l.drop (k+1))= -1
   ·rw[if_pos h1,if_pos h1,if_pos rfl]
   ·rw[if_neg h1,if_neg h1,if_neg (by omega)];push_cast;omega
 ·have h:=of_decide_eq_false h;obtain rfl:k=l.length:=by omega
  rw[List.drop_length]at hf;have hf:(-1:Int)=bg p l:=hf;rw[←hf];exact⟨rfl,rfl⟩
theorem Qw{ty:TypeId}{cs:List PV}{fn:FuncId}{p:aS→Bool}(l:List aS)(hl:l.length≤maxLen)(hp:∀x∈l,JJ fn [.agg x.enc,.ptr (.ext 0) 0] [.pure ty cs] (nB (p x)) [.pure ty cs]):JJ 95 [.p (.sl 5 (l.map aS.enc)),.fn fn [] [.ptr (.ext 0) 0]] [.pure ty cs] (nB (l.any p)) [.pure ty cs]:=by
 refine JJ.intro Tryz.func95 rfl rfl rfl rfl ?_;refine⟨_,_,M0 l hl hp,rfl,?_⟩;rw[←fx];exact⟨rfl,rfl⟩
theorem Na{fn:FuncId}{p:bE→Bool}(l:List bE)(hl:l.length≤maxLen)(hp:∀x∈l,JJ fn [.agg x.enc] [] (nB (p x)) []):JJ 150 [.p (.sl 5 (l.map bE.enc)),.fn fn [] []] [] (nI (bg p l)) []:=by
 refine JJ.intro Tryz.func150 rfl rfl rfl rfl ?_;have fw:maxLen≤9223372036854775807:=by decide
 refine⟨_,al _ _,?_⟩;refine⟨[0,1,7,8],[],fun n S=>∃k:Nat,k≤l.length∧n=l.length-k∧(if bg p (l.drop k)= -1 then-1 else bg p (l.drop k)+k)=bg p l∧S=St.mk' [(0,.p (.sl 5 (l.map bE.enc))),(1,.fn fn [] []),(7,nI l.length),(8,nI k)] [],⟨_,0,by omega,rfl,by rw[List.drop_zero];split<;>simp_all,rfl⟩,?_⟩;rintro n S ⟨k,hk,rfl,hf,rfl⟩;refine ab (fun h=>?_) (fun h=>?_)
 ·have h:=of_decide_eq_true h;have b9:k<l.length:=by omega
  rw[dB b9]at hf;refine⟨_,ao _ _ _ b9,?_⟩;refine⟨_,hp (l.getD k default) (av b9),?_⟩;cases hx:p (l.getD k default)with
  | true=>
   refine ab (fun h=>?_) (fun h=>by cases h);rw[hx]at hf;have hf:(k:Int)=bg p l:=by rw[←hf];simp
   rw[←hf];exact⟨rfl,rfl⟩
  | false=>
   refine ab (fun h=>by cases h) (fun h=>?_);rw[hx]at hf;refine⟨_,wrap_i64 (by omega) (by omega),?_⟩;refine⟨_,by omega,k+1,by omega,rfl,?_,rfl⟩;rw[←hf];have:=dj p (l.drop (k+1));simp only[Bool.false_eq_true,if_false];by_cases h1:bg p (l.drop (k+1))= -1
   ·rw[if_pos h1,if_pos h1,if_pos rfl]
   ·rw[if_neg h1,if_neg h1,if_neg (by omega)];push_cast;omega
 ·have h:=of_decide_eq_false h;obtain rfl:k=l.length:=by omega
  rw[List.drop_length]at hf;have hf:(-1:Int)=bg p l:=hf;rw[←hf];exact⟨rfl,rfl⟩
theorem ZC{fn:FuncId}{p:bE→Bool}(l:List bE)(hl:l.length≤maxLen)(hp:∀x∈l,JJ fn [.agg x.enc] [] (nB (p x)) []):JJ 97 [.p (.sl 5 (l.map bE.enc)),.fn fn [] []] [] (nB (l.any p)) []:=by
 refine JJ.intro Tryz.func97 rfl rfl rfl rfl ?_;refine⟨_,Na l hl hp,?_⟩;rw[←fx];exact⟨rfl,rfl⟩
theorem Nb{ty:TypeId}{cs:List PV}{fn:FuncId}{p:bE→Bool}(l:List bE)(hl:l.length≤maxLen)(hp:∀x∈l,JJ fn [.agg x.enc,.ptr (.ext 0) 0] [.pure ty cs] (nB (p x)) [.pure ty cs]):JJ 150 [.p (.sl 5 (l.map bE.enc)),.fn fn [] [.ptr (.ext 0) 0]] [.pure ty cs] (nI (bg p l)) [.pure ty cs]:=by
 refine JJ.intro Tryz.func150 rfl rfl rfl rfl ?_;have fw:maxLen≤9223372036854775807:=by decide
 refine⟨_,al _ _,?_⟩;refine⟨[0,1,7,8],[.ext 0],fun n S=>∃k:Nat,k≤l.length∧n=l.length-k∧(if bg p (l.drop k)= -1 then-1 else bg p (l.drop k)+k)=bg p l∧S=St.mk' [(0,.p (.sl 5 (l.map bE.enc))),(1,.fn fn [] [.ptr (.ext 0) 0]),(7,nI l.length),(8,nI k)] [(.ext 0,.pure ty cs)],⟨_,0,by omega,rfl,by rw[List.drop_zero];split<;>simp_all,rfl⟩,?_⟩;rintro n S ⟨k,hk,rfl,hf,rfl⟩;refine ab (fun h=>?_) (fun h=>?_)
 ·have h:=of_decide_eq_true h;have b9:k<l.length:=by omega
  rw[dB b9]at hf;refine⟨_,ao _ _ _ b9,?_⟩;refine⟨_,_,hp (l.getD k default) (av b9),rfl,?_⟩;cases hx:p (l.getD k default)with
  | true=>
   refine ab (fun h=>?_) (fun h=>by cases h);rw[hx]at hf;have hf:(k:Int)=bg p l:=by rw[←hf];simp
   rw[←hf];exact⟨rfl,rfl⟩
  | false=>
   refine ab (fun h=>by cases h) (fun h=>?_);rw[hx]at hf;refine⟨_,wrap_i64 (by omega) (by omega),?_⟩;refine⟨_,by omega,k+1,by omega,rfl,?_,rfl⟩;rw[←hf];have:=dj p (l.drop (k+1));simp only[Bool.false_eq_true,if_false];by_cases h1:bg p (l.drop (k+1))= -1
   ·rw[if_pos h1,if_pos h1,if_pos rfl]
   ·rw[if_neg h1,if_neg h1,if_neg (by omega)];push_cast;omega
 ·have h:=of_decide_eq_false h;obtain rfl:k=l.length:=by omega
  rw[List.drop_length]at hf;have hf:(-1:Int)=bg p l:=hf;rw[←hf];exact⟨rfl,rfl⟩
theorem ZD{ty:TypeId}{cs:List PV}{fn:FuncId}{p:bE→Bool}(l:List bE)(hl:l.length≤maxLen)(hp:∀x∈l,JJ fn [.agg x.enc,.ptr (.ext 0) 0] [.pure ty cs] (nB (p x)) [.pure ty cs]):JJ 97 [.p (.sl 5 (l.map bE.enc)),.fn fn [] [.ptr (.ext 0) 0]] [.pure ty cs] (nB (l.any p)) [.pure ty cs]:=by
 refine JJ.intro Tryz.func97 rfl rfl rfl rfl ?_;refine⟨_,_,Nb l hl hp,rfl,?_⟩;rw[←fx];exact⟨rfl,rfl⟩
theorem Nc{fn:FuncId}{p:aj→Bool}(l:List aj)(hl:l.length≤maxLen)(hp:∀x∈l,JJ fn [.agg x.enc] [] (nB (p x)) []):JJ 167 [.p (.sl 22 (l.map aj.enc)),.fn fn [] []] [] (nI (bg p l)) []:=by
 refine JJ.intro Tryz.func167 rfl rfl rfl rfl ?_;have fw:maxLen≤9223372036854775807:=by decide
 refine⟨_,al _ _,?_⟩;refine⟨[0,1,7,8],[],fun n S=>∃k:Nat,k≤l.length∧n=l.length-k∧(if bg p (l.drop k)= -1 then-1 else bg p (l.drop k)+k)=bg p l∧S=St.mk' [(0,.p (.sl 22 (l.map aj.enc))),(1,.fn fn [] []),(7,nI l.length),(8,nI k)] [],⟨_,0,by omega,rfl,by rw[List.drop_zero];split<;>simp_all,rfl⟩,?_⟩;rintro n S ⟨k,hk,rfl,hf,rfl⟩;refine ab (fun h=>?_) (fun h=>?_)
 ·have h:=of_decide_eq_true h;have b9:k<l.length:=by omega
  rw[dB b9]at hf;refine⟨_,ao _ _ _ b9,?_⟩;refine⟨_,hp (l.getD k default) (av b9),?_⟩;cases hx:p (l.getD k default)with
  | true=>
   refine ab (fun h=>?_) (fun h=>by cases h);rw[hx]at hf;have hf:(k:Int)=bg p l:=by rw[←hf];simp
   rw[←hf];exact⟨rfl,rfl⟩
  | false=>
   refine ab (fun h=>by cases h) (fun h=>?_);rw[hx]at hf;refine⟨_,wrap_i64 (by omega) (by omega),?_⟩;refine⟨_,by omega,k+1,by omega,rfl,?_,rfl⟩;rw[←hf];have:=dj p (l.drop (k+1));simp only[Bool.false_eq_true,if_false];by_cases h1:bg p (l.drop (k+1))= -1
   ·rw[if_pos h1,if_pos h1,if_pos rfl]
   ·rw[if_neg h1,if_neg h1,if_neg (by omega)];push_cast;omega
 ·have h:=of_decide_eq_false h;obtain rfl:k=l.length:=by omega
  rw[List.drop_length]at hf;have hf:(-1:Int)=bg p l:=hf;rw[←hf];exact⟨rfl,rfl⟩
theorem XR{fn:FuncId}{p:aj→Bool}(l:List aj)(hl:l.length≤maxLen)(hp:∀x∈l,JJ fn [.agg x.enc] [] (nB (p x)) []):JJ 113 [.p (.sl 22 (l.map aj.enc)),.fn fn [] []] [] (nB (l.any p)) []:=by
 refine JJ.intro Tryz.func113 rfl rfl rfl rfl ?_;refine⟨_,Nc l hl hp,?_⟩;rw[←fx];exact⟨rfl,rfl⟩
theorem EO{ty:TypeId}{cs:List PV}{fn:FuncId}{p:aj→Bool}(l:List aj)(hl:l.length≤maxLen)(hp:∀x∈l,JJ fn [.agg x.enc,.ptr (.ext 0) 0] [.pure ty cs] (nB (p x)) [.pure ty cs]):JJ 167 [.p (.sl 22 (l.map aj.enc)),.fn fn [] [.ptr (.ext 0) 0]] [.pure ty cs] (nI (bg p l)) [.pure ty cs]:=by
 refine JJ.intro Tryz.func167 rfl rfl rfl rfl ?_;have fw:maxLen≤9223372036854775807:=by decide
 refine⟨_,al _ _,?_⟩;refine⟨[0,1,7,8],[.ext 0],fun n S=>∃k:Nat,k≤l.length∧n=l.length-k∧(if bg p (l.drop k)= -1 then-1 else bg p (l.drop k)+k)=bg p l∧S=St.mk' [(0,.p (.sl 22 (l.map aj.enc))),(1,.fn fn [] [.ptr (.ext 0) 0]),(7,nI l.length),(8,nI k)] [(.ext 0,.pure ty cs)],⟨_,0,by omega,rfl,by rw[List.drop_zero];split<;>simp_all,rfl⟩,?_⟩;rintro n S ⟨k,hk,rfl,hf,rfl⟩;refine ab (fun h=>?_) (fun h=>?_)
 ·have h:=of_decide_eq_true h;have b9:k<l.length:=by omega
  rw[dB b9]at hf;refine⟨_,ao _ _ _ b9,?_⟩;refine⟨_,_,hp (l.getD k default) (av b9),rfl,?_⟩;cases hx:p (l.getD k default)with
  | true=>
   refine ab (fun h=>?_) (fun h=>by cases h);rw[hx]at hf;have hf:(k:Int)=bg p l:=by rw[←hf];simp
   rw[←hf];exact⟨rfl,rfl⟩
  | false=>
   refine ab (fun h=>by cases h) (fun h=>?_);rw[hx]at hf;refine⟨_,wrap_i64 (by omega) (by omega),?_⟩;refine⟨_,by omega,k+1,by omega,rfl,?_,rfl⟩;rw[←hf];have:=dj p (l.drop (k+1));simp only[Bool.false_eq_true,if_false];by_cases h1:bg p (l.drop (k+1))= -1
   ·rw[if_pos h1,if_pos h1,if_pos rfl]
   ·rw[if_neg h1,if_neg h1,if_neg (by omega)];push_cast;omega
 ·have h:=of_decide_eq_false h;obtain rfl:k=l.length:=by omega
  rw[List.drop_length]at hf;have hf:(-1:Int)=bg p l:=hf;rw[←hf];exact⟨rfl,rfl⟩
theorem Nd{ty:TypeId}{cs:List PV}{fn:FuncId}{p:aj→Bool}(l:List aj)(hl:l.length≤maxLen)(hp:∀x∈l,JJ fn [.agg x.enc,.ptr (.ext 0) 0] [.pure ty cs] (nB (p x)) [.pure ty cs]):JJ 113 [.p (.sl 22 (l.map aj.enc)),.fn fn [] [.ptr (.ext 0) 0]] [.pure ty cs] (nB (l.any p)) [.pure ty cs]:=by
 refine JJ.intro Tryz.func113 rfl rfl rfl rfl ?_;refine⟨_,_,EO l hl hp,rfl,?_⟩;rw[←fx];exact⟨rfl,rfl⟩
theorem Nf{fn:FuncId}{p:aI→Bool}(l:List aI)(hl:l.length≤maxLen)(hp:∀x∈l,JJ fn [.agg x.enc] [] (nB (p x)) []):JJ 180 [.p (.sl 2 (l.map aI.enc)),.fn fn [] []] [] (nI (bg p l)) []:=by
 refine JJ.intro Tryz.func180 rfl rfl rfl rfl ?_;have fw:maxLen≤9223372036854775807:=by decide
 refine⟨_,al _ _,?_⟩;refine⟨[0,1,7,8],[],fun n S=>∃k:Nat,k≤l.length∧n=l.length-k∧(if bg p (l.drop k)= -1 then-1 else bg p (l.drop k)+k)=bg p l∧S=St.mk' [(0,.p (.sl 2 (l.map aI.enc))),(1,.fn fn [] []),(7,nI l.length),(8,nI k)] [],⟨_,0,by omega,rfl,by rw[List.drop_zero];split<;>simp_all,rfl⟩,?_⟩;rintro n S ⟨k,hk,rfl,hf,rfl⟩;refine ab (fun h=>?_) (fun h=>?_)
 ·have h:=of_decide_eq_true h;have b9:k<l.length:=by omega
  rw[dB b9]at hf;refine⟨_,ao _ _ _ b9,?_⟩;refine⟨_,hp (l.getD k default) (av b9),?_⟩;cases hx:p (l.getD k default)with
  | true=>
   refine ab (fun h=>?_) (fun h=>by cases h);rw[hx]at hf;have hf:(k:Int)=bg p l:=by rw[←hf];simp
   rw[←hf];exact⟨rfl,rfl⟩
  | false=>
   refine ab (fun h=>by cases h) (fun h=>?_);rw[hx]at hf;refine⟨_,wrap_i64 (by omega) (by omega),?_⟩;refine⟨_,by omega,k+1,by omega,rfl,?_,rfl⟩;rw[←hf];have:=dj p (l.drop (k+1));simp only[Bool.false_eq_true,if_false];by_cases h1:bg p (l.drop (k+1))= -1
   ·rw[if_pos h1,if_pos h1,if_pos rfl]
   ·rw[if_neg h1,if_neg h1,if_neg (by omega)];push_cast;omega
 ·have h:=of_decide_eq_false h;obtain rfl:k=l.length:=by omega
  rw[List.drop_length]at hf;have hf:(-1:Int)=bg p l:=hf;rw[←hf];exact⟨rfl,rfl⟩
theorem XS{fn:FuncId}{p:aI→Bool}(l:List aI)(hl:l.length≤maxLen)(hp:∀x∈l,JJ fn [.agg x.enc] [] (nB (p x)) []):JJ 134 [.p (.sl 2 (l.map aI.enc)),.fn fn [] []] [] (nB (l.any p)) []:=by
 refine JJ.intro Tryz.func134 rfl rfl rfl rfl ?_;refine⟨_,Nf l hl hp,?_⟩;rw[←fx];exact⟨rfl,rfl⟩
theorem Ng{ty:TypeId}{cs:List PV}{fn:FuncId}{p:aI→Bool}(l:List aI)(hl:l.length≤maxLen)(hp:∀x∈l,JJ fn [.agg x.enc,.ptr (.ext 0) 0] [.pure ty cs] (nB (p x)) [.pure ty cs]):JJ 180 [.p (.sl 2 (l.map aI.enc)),.fn fn [] [.ptr (.ext 0) 0]] [.pure ty cs] (nI (bg p l)) [.pure ty cs]:=by
 refine JJ.intro Tryz.func180 rfl rfl rfl rfl ?_;have fw:maxLen≤9223372036854775807:=by decide
 refine⟨_,al _ _,?_⟩;refine⟨[0,1,7,8],[.ext 0],fun n S=>∃k:Nat,k≤l.length∧n=l.length-k∧(if bg p (l.drop k)= -1 then-1 else bg p (l.drop k)+k)=bg p l∧S=St.mk' [(0,.p (.sl 2 (l.map aI.enc))),(1,.fn fn [] [.ptr (.ext 0) 0]),(7,nI l.length),(8,nI k)] [(.ext 0,.pure ty cs)],⟨_,0,by omega,rfl,by rw[List.drop_zero];split<;>simp_all,rfl⟩,?_⟩;rintro n S ⟨k,hk,rfl,hf,rfl⟩;refine ab (fun h=>?_) (fun h=>?_)
 ·have h:=of_decide_eq_true h;have b9:k<l.length:=by omega
  rw[dB b9]at hf;refine⟨_,ao _ _ _ b9,?_⟩;refine⟨_,_,hp (l.getD k default) (av b9),rfl,?_⟩;cases hx:p (l.getD k default)with
  | true=>
   refine ab (fun h=>?_) (fun h=>by cases h);rw[hx]at hf;have hf:(k:Int)=bg p l:=by rw[←hf];simp
   rw[←hf];exact⟨rfl,rfl⟩
  | false=>
   refine ab (fun h=>by cases h) (fun h=>?_);rw[hx]at hf;refine⟨_,wrap_i64 (by omega) (by omega),?_⟩;refine⟨_,by omega,k+1,by omega,rfl,?_,rfl⟩;rw[←hf];have:=dj p (l.drop (k+1));simp only[Bool.false_eq_true,if_false];by_cases h1:bg p (l.drop (k+1))= -1
   ·rw[if_pos h1,if_pos h1,if_pos rfl]
   ·rw[if_neg h1,if_neg h1,if_neg (by omega)];push_cast;omega
 ·have h:=of_decide_eq_false h;obtain rfl:k=l.length:=by omega
  rw[List.drop_length]at hf;have hf:(-1:Int)=bg p l:=hf;rw[←hf];exact⟨rfl,rfl⟩
theorem XT{ty:TypeId}{cs:List PV}{fn:FuncId}{p:aI→Bool}(l:List aI)(hl:l.length≤maxLen)(hp:∀x∈l,JJ fn [.agg x.enc,.ptr (.ext 0) 0] [.pure ty cs] (nB (p x)) [.pure ty cs]):JJ 134 [.p (.sl 2 (l.map aI.enc)),.fn fn [] [.ptr (.ext 0) 0]] [.pure ty cs] (nB (l.any p)) [.pure ty cs]:=by
 refine JJ.intro Tryz.func134 rfl rfl rfl rfl ?_;refine⟨_,_,Ng l hl hp,rfl,?_⟩;rw[←fx];exact⟨rfl,rfl⟩
theorem Nh{fn:FuncId}{p:ax→Bool}(l:List ax)(hl:l.length≤maxLen)(hp:∀x∈l,JJ fn [.agg x.enc] [] (nB (p x)) []):JJ 181 [.p (.sl 2 (l.map ax.enc)),.fn fn [] []] [] (nI (bg p l)) []:=by
 refine JJ.intro Tryz.func181 rfl rfl rfl rfl ?_;have fw:maxLen≤9223372036854775807:=by decide
 refine⟨_,al _ _,?_⟩;refine⟨[0,1,7,8],[],fun n S=>∃k:Nat,k≤l.length∧n=l.length-k∧(if bg p (l.drop k)= -1 then-1 else bg p (l.drop k)+k)=bg p l∧S=St.mk' [(0,.p (.sl 2 (l.map ax.enc))),(1,.fn fn [] []),(7,nI l.length),(8,nI k)] [],⟨_,0,by omega,rfl,by rw[List.drop_zero];split<;>simp_all,rfl⟩,?_⟩;rintro n S ⟨k,hk,rfl,hf,rfl⟩;refine ab (fun h=>?_) (fun h=>?_)
 ·have h:=of_decide_eq_true h;have b9:k<l.length:=by omega
  rw[dB b9]at hf;refine⟨_,ao _ _ _ b9,?_⟩;refine⟨_,hp (l.getD k default) (av b9),?_⟩;cases hx:p (l.getD k default)with
  | true=>
   refine ab (fun h=>?_) (fun h=>by cases h);rw[hx]at hf;have hf:(k:Int)=bg p l:=by rw[←hf];simp
   rw[←hf];exact⟨rfl,rfl⟩
  | false=>
   refine ab (fun h=>by cases h) (fun h=>?_);rw[hx]at hf;refine⟨_,wrap_i64 (by omega) (by omega),?_⟩;refine⟨_,by omega,k+1,by omega,rfl,?_,rfl⟩;rw[←hf];have:=dj p (l.drop (k+1));simp only[Bool.false_eq_true,if_false];by_cases h1:bg p (l.drop (k+1))= -1
   ·rw[if_pos h1,if_pos h1,if_pos rfl]
   ·rw[if_neg h1,if_neg h1,if_neg (by omega)];push_cast;omega
 ·have h:=of_decide_eq_false h;obtain rfl:k=l.length:=by omega
  rw[List.drop_length]at hf;have hf:(-1:Int)=bg p l:=hf;rw[←hf];exact⟨rfl,rfl⟩
theorem XU{fn:FuncId}{p:ax→Bool}(l:List ax)(hl:l.length≤maxLen)(hp:∀x∈l,JJ fn [.agg x.enc] [] (nB (p x)) []):JJ 136 [.p (.sl 2 (l.map ax.enc)),.fn fn [] []] [] (nB (l.any p)) []:=by
 refine JJ.intro Tryz.func136 rfl rfl rfl rfl ?_;refine⟨_,Nh l hl hp,?_⟩;rw[←fx];exact⟨rfl,rfl⟩
theorem Ni{ty:TypeId}{cs:List PV}{fn:FuncId}{p:ax→Bool}(l:List ax)(hl:l.length≤maxLen)(hp:∀x∈l,JJ fn [.agg x.enc,.ptr (.ext 0) 0] [.pure ty cs] (nB (p x)) [.pure ty cs]):JJ 181 [.p (.sl 2 (l.map ax.enc)),.fn fn [] [.ptr (.ext 0) 0]] [.pure ty cs] (nI (bg p l)) [.pure ty cs]:=by
 refine JJ.intro Tryz.func181 rfl rfl rfl rfl ?_;have fw:maxLen≤9223372036854775807:=by decide
 refine⟨_,al _ _,?_⟩;refine⟨[0,1,7,8],[.ext 0],fun n S=>∃k:Nat,k≤l.length∧n=l.length-k∧(if bg p (l.drop k)= -1 then-1 else bg p (l.drop k)+k)=bg p l∧S=St.mk' [(0,.p (.sl 2 (l.map ax.enc))),(1,.fn fn [] [.ptr (.ext 0) 0]),(7,nI l.length),(8,nI k)] [(.ext 0,.pure ty cs)],⟨_,0,by omega,rfl,by rw[List.drop_zero];split<;>simp_all,rfl⟩,?_⟩;rintro n S ⟨k,hk,rfl,hf,rfl⟩;refine ab (fun h=>?_) (fun h=>?_)
 ·have h:=of_decide_eq_true h;have b9:k<l.length:=by omega
  rw[dB b9]at hf;refine⟨_,ao _ _ _ b9,?_⟩;refine⟨_,_,hp (l.getD k default) (av b9),rfl,?_⟩;cases hx:p (l.getD k default)with
  | true=>
   refine ab (fun h=>?_) (fun h=>by cases h);rw[hx]at hf;have hf:(k:Int)=bg p l:=by rw[←hf];simp
   rw[←hf];exact⟨rfl,rfl⟩
  | false=>
   refine ab (fun h=>by cases h) (fun h=>?_);rw[hx]at hf;refine⟨_,wrap_i64 (by omega) (by omega),?_⟩;refine⟨_,by omega,k+1,by omega,rfl,?_,rfl⟩;rw[←hf];have:=dj p (l.drop (k+1));simp only[Bool.false_eq_true,if_false];by_cases h1:bg p (l.drop (k+1))= -1
   ·rw[if_pos h1,if_pos h1,if_pos rfl]
   ·rw[if_neg h1,if_neg h1,if_neg (by omega)];push_cast;omega
 ·have h:=of_decide_eq_false h;obtain rfl:k=l.length:=by omega
  rw[List.drop_length]at hf;have hf:(-1:Int)=bg p l:=hf;rw[←hf];exact⟨rfl,rfl⟩
theorem XV{ty:TypeId}{cs:List PV}{fn:FuncId}{p:ax→Bool}(l:List ax)(hl:l.length≤maxLen)(hp:∀x∈l,JJ fn [.agg x.enc,.ptr (.ext 0) 0] [.pure ty cs] (nB (p x)) [.pure ty cs]):JJ 136 [.p (.sl 2 (l.map ax.enc)),.fn fn [] [.ptr (.ext 0) 0]] [.pure ty cs] (nB (l.any p)) [.pure ty cs]:=by
 refine JJ.intro Tryz.func136 rfl rfl rfl rfl ?_;refine⟨_,_,Ni l hl hp,rfl,?_⟩;rw[←fx];exact⟨rfl,rfl⟩
theorem Nj{fn:FuncId}{p:aD→Bool}(l:List aD)(hl:l.length≤maxLen)(hp:∀x∈l,JJ fn [.agg x.enc] [] (nB (p x)) []):JJ 182 [.p (.sl 13 (l.map aD.enc)),.fn fn [] []] [] (nI (bg p l)) []:=by
 refine JJ.intro Tryz.func182 rfl rfl rfl rfl ?_;have fw:maxLen≤9223372036854775807:=by decide
 refine⟨_,al _ _,?_⟩;refine⟨[0,1,7,8],[],fun n S=>∃k:Nat,k≤l.length∧n=l.length-k∧(if bg p (l.drop k)= -1 then-1 else bg p (l.drop k)+k)=bg p l∧S=St.mk' [(0,.p (.sl 13 (l.map aD.enc))),(1,.fn fn [] []),(7,nI l.length),(8,nI k)] [],⟨_,0,by omega,rfl,by rw[List.drop_zero];split<;>simp_all,rfl⟩,?_⟩;rintro n S ⟨k,hk,rfl,hf,rfl⟩;refine ab (fun h=>?_) (fun h=>?_)
 ·have h:=of_decide_eq_true h;have b9:k<l.length:=by omega
  rw[dB b9]at hf;refine⟨_,ao _ _ _ b9,?_⟩;refine⟨_,hp (l.getD k default) (av b9),?_⟩;cases hx:p (l.getD k default)with
  | true=>
   refine ab (fun h=>?_) (fun h=>by cases h);rw[hx]at hf;have hf:(k:Int)=bg p l:=by rw[←hf];simp
   rw[←hf];exact⟨rfl,rfl⟩
  | false=>
   refine ab (fun h=>by cases h) (fun h=>?_);rw[hx]at hf;refine⟨_,wrap_i64 (by omega) (by omega),?_⟩;refine⟨_,by omega,k+1,by omega,rfl,?_,rfl⟩;rw[←hf];have:=dj p (l.drop (k+1));simp only[Bool.false_eq_true,if_false];by_cases h1:bg p (l.drop (k+1))= -1
   ·rw[if_pos h1,if_pos h1,if_pos rfl]
   ·rw[if_neg h1,if_neg h1,if_neg (by omega)];push_cast;omega
 ·have h:=of_decide_eq_false h;obtain rfl:k=l.length:=by omega
  rw[List.drop_length]at hf;have hf:(-1:Int)=bg p l:=hf;rw[←hf];exact⟨rfl,rfl⟩
theorem Nk{fn:FuncId}{p:aD→Bool}(l:List aD)(hl:l.length≤maxLen)(hp:∀x∈l,JJ fn [.agg x.enc] [] (nB (p x)) []):JJ 138 [.p (.sl 13 (l.map aD.enc)),.fn fn [] []] [] (nB (l.any p)) []:=by
 refine JJ.intro Tryz.func138 rfl rfl rfl rfl ?_;refine⟨_,Nj l hl hp,?_⟩;rw[←fx];exact⟨rfl,rfl⟩
theorem Nl{ty:TypeId}{cs:List PV}{fn:FuncId}{p:aD→Bool}(l:List aD)(hl:l.length≤maxLen)(hp:∀x∈l,JJ fn [.agg x.enc,.ptr (.ext 0) 0] [.pure ty cs] (nB (p x)) [.pure ty cs]):JJ 182 [.p (.sl 13 (l.map aD.enc)),.fn fn [] [.ptr (.ext 0) 0]] [.pure ty cs] (nI (bg p l)) [.pure ty cs]:=by
 refine JJ.intro Tryz.func182 rfl rfl rfl rfl ?_;have fw:maxLen≤9223372036854775807:=by decide
 refine⟨_,al _ _,?_⟩;refine⟨[0,1,7,8],[.ext 0],fun n S=>∃k:Nat,k≤l.length∧n=l.length-k∧(if bg p (l.drop k)= -1 then-1 else bg p (l.drop k)+k)=bg p l∧S=St.mk' [(0,.p (.sl 13 (l.map aD.enc))),(1,.fn fn [] [.ptr (.ext 0) 0]),(7,nI l.length),(8,nI k)] [(.ext 0,.pure ty cs)],⟨_,0,by omega,rfl,by rw[List.drop_zero];split<;>simp_all,rfl⟩,?_⟩;rintro n S ⟨k,hk,rfl,hf,rfl⟩;refine ab (fun h=>?_) (fun h=>?_)
 ·have h:=of_decide_eq_true h;have b9:k<l.length:=by omega
  rw[dB b9]at hf;refine⟨_,ao _ _ _ b9,?_⟩;refine⟨_,_,hp (l.getD k default) (av b9),rfl,?_⟩;cases hx:p (l.getD k default)with
  | true=>
   refine ab (fun h=>?_) (fun h=>by cases h);rw[hx]at hf;have hf:(k:Int)=bg p l:=by rw[←hf];simp
   rw[←hf];exact⟨rfl,rfl⟩
  | false=>
   refine ab (fun h=>by cases h) (fun h=>?_);rw[hx]at hf;refine⟨_,wrap_i64 (by omega) (by omega),?_⟩;refine⟨_,by omega,k+1,by omega,rfl,?_,rfl⟩;rw[←hf];have:=dj p (l.drop (k+1));simp only[Bool.false_eq_true,if_false];by_cases h1:bg p (l.drop (k+1))= -1
   ·rw[if_pos h1,if_pos h1,if_pos rfl]
   ·rw[if_neg h1,if_neg h1,if_neg (by omega)];push_cast;omega
 ·have h:=of_decide_eq_false h;obtain rfl:k=l.length:=by omega
  rw[List.drop_length]at hf;have hf:(-1:Int)=bg p l:=hf;rw[←hf];exact⟨rfl,rfl⟩
theorem XW{ty:TypeId}{cs:List PV}{fn:FuncId}{p:aD→Bool}(l:List aD)(hl:l.length≤maxLen)(hp:∀x∈l,JJ fn [.agg x.enc,.ptr (.ext 0) 0] [.pure ty cs] (nB (p x)) [.pure ty cs]):JJ 138 [.p (.sl 13 (l.map aD.enc)),.fn fn [] [.ptr (.ext 0) 0]] [.pure ty cs] (nB (l.any p)) [.pure ty cs]:=by
 refine JJ.intro Tryz.func138 rfl rfl rfl rfl ?_;refine⟨_,_,Nl l hl hp,rfl,?_⟩;rw[←fx];exact⟨rfl,rfl⟩
theorem Nm{fn:FuncId}{p:UInt8→Bool}(l:List UInt8)(hl:l.length≤maxLen)(hp:∀x∈l,JJ fn [.p (.int .u8 x.toNat)] [] (nB (p x)) []):JJ 178 [.p (.sl 1 (l.map AY)),.fn fn [] []] [] (nI (bg p l)) []:=by
 refine JJ.intro Tryz.func178 rfl rfl rfl rfl ?_;have fw:maxLen≤9223372036854775807:=by decide
 refine⟨_,al _ _,?_⟩;refine⟨[0,1,7,8],[],fun n S=>∃k:Nat,k≤l.length∧n=l.length-k∧(if bg p (l.drop k)= -1 then-1 else bg p (l.drop k)+k)=bg p l∧S=St.mk' [(0,.p (.sl 1 (l.map AY))),(1,.fn fn [] []),(7,nI l.length),(8,nI k)] [],⟨_,0,by omega,rfl,by rw[List.drop_zero];split<;>simp_all,rfl⟩,?_⟩;rintro n S ⟨k,hk,rfl,hf,rfl⟩;refine ab (fun h=>?_) (fun h=>?_)
 ·have h:=of_decide_eq_true h;have b9:k<l.length:=by omega
  rw[dB b9]at hf;refine⟨_,ao _ _ _ b9,?_⟩;refine⟨_,hp (l.getD k default) (av b9),?_⟩;cases hx:p (l.getD k default)with
  | true=>
   refine ab (fun h=>?_) (fun h=>by cases h);rw[hx]at hf;have hf:(k:Int)=bg p l:=by rw[←hf];simp
   rw[←hf];exact⟨rfl,rfl⟩
  | false=>
   refine ab (fun h=>by cases h) (fun h=>?_);rw[hx]at hf;refine⟨_,wrap_i64 (by omega) (by omega),?_⟩;refine⟨_,by omega,k+1,by omega,rfl,?_,rfl⟩;rw[←hf];have:=dj p (l.drop (k+1));simp only[Bool.false_eq_true,if_false];by_cases h1:bg p (l.drop (k+1))= -1
   ·rw[if_pos h1,if_pos h1,if_pos rfl]
   ·rw[if_neg h1,if_neg h1,if_neg (by omega)];push_cast;omega
 ·have h:=of_decide_eq_false h;obtain rfl:k=l.length:=by omega
  rw[List.drop_length]at hf;have hf:(-1:Int)=bg p l:=hf;rw[←hf];exact⟨rfl,rfl⟩
theorem Nn{fn:FuncId}{p:UInt8→Bool}(l:List UInt8)(hl:l.length≤maxLen)(hp:∀x∈l,JJ fn [.p (.int .u8 x.toNat)] [] (nB (p x)) []):JJ 130 [.p (.sl 1 (l.map AY)),.fn fn [] []] [] (nB (l.any p)) []:=by
 refine JJ.intro Tryz.func130 rfl rfl rfl rfl ?_;refine⟨_,Nm l hl hp,?_⟩;rw[←fx];exact⟨rfl,rfl⟩
theorem No{ty:TypeId}{cs:List PV}{fn:FuncId}{p:UInt8→Bool}(l:List UInt8)(hl:l.length≤maxLen)(hp:∀x∈l,JJ fn [.p (.int .u8 x.toNat),.ptr (.ext 0) 0] [.pure ty cs] (nB (p x)) [.pure ty cs]):JJ 178 [.p (.sl 1 (l.map AY)),.fn fn [] [.ptr (.ext 0) 0]] [.pure ty cs] (nI (bg p l)) [.pure ty cs]:=by
 refine JJ.intro Tryz.func178 rfl rfl rfl rfl ?_;have fw:maxLen≤9223372036854775807:=by decide
 refine⟨_,al _ _,?_⟩;refine⟨[0,1,7,8],[.ext 0],fun n S=>∃k:Nat,k≤l.length∧n=l.length-k∧(if bg p (l.drop k)= -1 then-1 else bg p (l.drop k)+k)=bg p l∧S=St.mk' [(0,.p (.sl 1 (l.map AY))),(1,.fn fn [] [.ptr (.ext 0) 0]),(7,nI l.length),(8,nI k)] [(.ext 0,.pure ty cs)],⟨_,0,by omega,rfl,by rw[List.drop_zero];split<;>simp_all,rfl⟩,?_⟩;rintro n S ⟨k,hk,rfl,hf,rfl⟩;refine ab (fun h=>?_) (fun h=>?_)
 ·have h:=of_decide_eq_true h;have b9:k<l.length:=by omega
  rw[dB b9]at hf;refine⟨_,ao _ _ _ b9,?_⟩;refine⟨_,_,hp (l.getD k default) (av b9),rfl,?_⟩;cases hx:p (l.getD k default)with
  | true=>
   refine ab (fun h=>?_) (fun h=>by cases h);rw[hx]at hf;have hf:(k:Int)=bg p l:=by rw[←hf];simp
   rw[←hf];exact⟨rfl,rfl⟩
  | false=>
   refine ab (fun h=>by cases h) (fun h=>?_);rw[hx]at hf;refine⟨_,wrap_i64 (by omega) (by omega),?_⟩;refine⟨_,by omega,k+1,by omega,rfl,?_,rfl⟩;rw[←hf];have:=dj p (l.drop (k+1));simp only[Bool.false_eq_true,if_false];by_cases h1:bg p (l.drop (k+1))= -1
   ·rw[if_pos h1,if_pos h1,if_pos rfl]
   ·rw[if_neg h1,if_neg h1,if_neg (by omega)];push_cast;omega
 ·have h:=of_decide_eq_false h;obtain rfl:k=l.length:=by omega
  rw[List.drop_length]at hf;have hf:(-1:Int)=bg p l:=hf;rw[←hf];exact⟨rfl,rfl⟩
theorem XY{ty:TypeId}{cs:List PV}{fn:FuncId}{p:UInt8→Bool}(l:List UInt8)(hl:l.length≤maxLen)(hp:∀x∈l,JJ fn [.p (.int .u8 x.toNat),.ptr (.ext 0) 0] [.pure ty cs] (nB (p x)) [.pure ty cs]):JJ 130 [.p (.sl 1 (l.map AY)),.fn fn [] [.ptr (.ext 0) 0]] [.pure ty cs] (nB (l.any p)) [.pure ty cs]:=by
 refine JJ.intro Tryz.func130 rfl rfl rfl rfl ?_;refine⟨_,_,No l hl hp,rfl,?_⟩;rw[←fx];exact⟨rfl,rfl⟩
open Go.Proofs
theorem Qx(e:aD)(h1:e.aE.length≤maxLen)(h2:e.cQ.length≤maxLen)(h3:e.bz.length≤maxLen):
  JJ 211 [.agg e.enc] [] (.dE [nI (if e.err≠0∨e.Kind=3 then 0 else if e.Value.ok then e.Value.wC else 0),nI (if e.err≠0∨e.Kind=3 then e.err else if e.Value.ok then 0 else 17)]) []:=by
 refine JJ.intro Tryz.func211 rfl rfl rfl rfl ?_;refine⟨_,vq e h1 h2 h3,?_⟩;refine ab (fun h=>?_) (fun h=>?_)
 ·have h:(bif(e.err !=0)then true else(e.Kind==3))=true:=h;rw[aX]at h;have h:e.err≠0∨e.Kind=3:=by simpa using h
  rw[if_pos h,if_pos h];exact⟨rfl,rfl⟩
 ·have h:(bif(e.err !=0)then true else(e.Kind==3))=false:=h;rw[aX]at h;have h:¬(e.err≠0∨e.Kind=3):=by simpa using h
  rw[if_neg h,if_neg h];refine⟨_,Qu e.Value,?_⟩;exact⟨rfl,rfl⟩
theorem Qy(h:aS):JJ 151 [.agg h.enc] [] (nB h.dQ) []:=by
 refine JJ.intro Tryz.func151 rfl rfl rfl rfl ?_;exact⟨rfl,rfl⟩
def aD.CH(e:aD):Bool:=bif(e.Kind==1)then e.aE.any aS.dQ else false
theorem Ih(e:aD)(h1:e.aE.length≤maxLen):JJ 100 [.agg e.enc] [] (nB e.CH) []:=by
 refine JJ.intro Tryz.func100 rfl rfl rfl rfl ?_;refine⟨_,fun _=>Qv e.aE h1 (fun x _=>Qy x),?_⟩;exact⟨rfl,rfl⟩
def qR(y x:aS):Bool:=x.aB.Step==y.aB.Step&&(x.aB.gJ==y.aB.gJ&&x.aB.eU==y.aB.eU)
theorem Qz(x y:aS):JJ 156 [.agg x.enc,.ptr (.ext 0) 0] [.pure 113 y.enc] (nB (qR y x)) [.pure 113 y.enc]:=by
 refine JJ.intro Tryz.func156 rfl rfl rfl rfl ?_;exact⟨rfl,rfl⟩
def oa(b:aD)(h:aS):Bool:=bif h.dQ then !(bif(b.Kind==1)then b.aE.any (qR h)else false)else false
def oc(a b:aD):Bool:=if a.Kind≠1 then true else !a.aE.any (oa b)
theorem QA(a b:aD)(h1:a.aE.length≤maxLen)(h2:b.aE.length≤maxLen):JJ 103 [.agg a.enc,.agg b.enc] [] (nB (oc a b)) []:=by
 refine JJ.intro Tryz.func103 rfl rfl rfl rfl ?_;have fw:maxLen≤9223372036854775807:=by decide
 unfold oc;refine ab (fun h=>?_) (fun h=>?_)
 ·have h:a.Kind≠1:=by simpa using h
  rw[if_pos h];exact⟨rfl,rfl⟩
 ·have h:¬a.Kind≠1:=by simpa using h
  rw[if_neg h];refine⟨_,al _ _,?_⟩;refine⟨[3,11,12,13],[.own 3],fun n S=>∃k:Nat,k≤a.aE.length∧n=a.aE.length-k∧(a.aE.drop k).any (oa b)=a.aE.any (oa b)∧S=St.mk' [(3,.ptr (.own 3) 0),(11,.p (.sl 5 (a.aE.map aS.enc))),(12,nI a.aE.length),(13,nI k)] [(.own 3,.pure 111 b.enc)],⟨_,0,by omega,rfl,rfl,rfl⟩,?_⟩;rintro n S ⟨k,hk,rfl,hf,rfl⟩;refine ab (fun h=>?_) (fun h=>?_)
  ·have h:=of_decide_eq_true h;have b9:k<a.aE.length:=by omega
   rw[EN default b9]at hf;refine⟨_,ao _ _ _ b9,?_⟩;refine⟨rfl,?_⟩;refine⟨_,fun _ _=>Qw b.aE h2 (fun x _=>Qz x (a.aE.getD k default)),?_⟩;refine ab (fun h=>?_) (fun h=>?_)
   ·have h:oa b (a.aE.getD k default)=true:=h;rw[h,Bool.true_or]at hf;rw[←hf];exact⟨rfl,rfl⟩
   ·have h:oa b (a.aE.getD k default)=false:=h;rw[h,Bool.false_or]at hf;refine⟨_,wrap_i64 (by omega) (by omega),?_⟩;exact⟨_,by omega,k+1,by omega,rfl,hf,rfl⟩
  ·have h:=of_decide_eq_false h;obtain rfl:k=a.aE.length:=by omega
   rw[List.drop_length]at hf;rw[←hf];exact⟨rfl,rfl⟩
end Go.Hm
