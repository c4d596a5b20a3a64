/- Part 4 of the proof: an abstract machine for the program, its soundness, contracts of functions, and the plain law; no conditions. -/
import Derived.Test.YtnmohbeakccnkaaGreatA3
import Derived.Laws.Sem
import Derived.Scope
set_option linter.all false
set_option maxRecDepth 512
namespace Go.Hm
section
variable {S agj:St} {K:St→Prop} {R W:List Nat} {c:BI} {fr:Bool} {T:TE} {J:uF}
theorem wg{ops:List Oper} :∀(f:Nat) {j:Nat} {w:Bool},(∀t,t∈rN ops f j→agj.get t=S.get t)→chain ops agj f j w=chain ops S f j w
 | 0,_,_,_=>rfl
 | f+1,j,w,h=>by
  unfold chain;unfold rN at h;cases ho:fT ops j with
  | none=>rfl
  | some o=>
   rw[ho]at h;obtain⟨d,op,ty,pos,af,gd⟩:=o;cases d with
   | none=>rfl
   | some s=>
    cases gd with
    | none=>
     simp only at h ⊢;rw[h s (by simp)]
    | some jw=>
     obtain⟨aga,w'⟩:=jw;simp only at h ⊢;rw[h s (by simp),wg f (fun t ht=>h t (List.mem_cons_of_mem _ ht))]
theorem cx{ops:List Oper}{o:Oper}{t:Nat}(h:t∈tmpsOf o.op.operands.toList):t∈aM ops o:=List.mem_append_left _ h
theorem bX{o:Oper} :∀e,o.dst=some e→e∈aK o:=fun e he=>by
 unfold aK;rw[he];simp
theorem lr{ch:bq}{args:Array Operand}{tys:Array TypeId}{l:List Operand}(hl:∀x,x∈args.toList→x∈l)(hA:∀t,t∈tmpsOf l→agj.get t=S.get t):
  ((args.toList.zip tys.toList).map fun(x,ty)=>bO T agj ch ty x)=((args.toList.zip tys.toList).map fun(x,ty)=>bO T S ch ty x):=by
 refine List.map_congr_left (fun p hp=>?_);obtain⟨x,ty⟩:=p;exact gg (hl x (List.of_mem_zip hp).1) hA
theorem zV{ops:List Oper}{j s:Nat}(h:mJ ops j=some s):s∈rN ops 8 j:=by
 unfold mJ at h;unfold rN;split at h
 ·rename_i o ho;rw[ho];obtain⟨d,op,ty,pos,af,gd⟩:=o;simp only at h;subst h;cases gd with
  | none=>simp
  | some jw=>obtain⟨aga,w'⟩:=jw;simp
 ·cases h
theorem mC{ch:bq}{o:Oper}(hA:∀t,t∈tmpsOf o.op.operands.toList→agj.get t=S.get t):g9 T (bO T agj ch) o=g9 T (bO T S ch) o:=by
 have ev:∀ty x,x∈o.op.operands.toList→bO T agj ch ty x=bO T S ch ty x:=fun ty x hx=>gg hx hA
 cases ho:o.op with
 | indexAddr t x i=>simp only[g9,ho];rw[ev t x (by simp[ho,Op.operands]),ev 0 i (by simp[ho,Op.operands])]
 | fieldAddr t x f=>simp only[g9,ho];rw[ev 0 x (by simp[ho,Op.operands])]
 | slice t x lo hi mx=>
  cases lo with
  | some l=>simp only[g9,ho]
  | none=>
   cases hi with
   | none=>simp only[g9,ho]
   | some y=>
    cases mx with
    | some m=>simp only[g9,ho]
    | none=>simp only[g9,ho];rw[ev t x (by simp[ho,Op.operands]),ev 0 y (by simp[ho,Op.operands])]
 | _=>simp only[g9,ho]
theorem J2{ev:TypeId→Operand→AV}{o:Oper}{r:nC}(h:g9 T ev o=some r):aY o= .quiet:=by
 unfold g9 at h;unfold aY;split at h
 ·rename_i t x i ho;rw[ho]
 ·rename_i t x f ho;rw[ho]
 ·rename_i t x hi ho;rw[ho]
 ·cases h
theorem fG{ops:List Oper}{apps:List Nat}{o:Oper}(hc:aY o≠ .fN)(h:aQ T J ops apps fr o S K):gI (fun S K=>aQ T J ops apps fr o S K) (aM ops o) (aK o) (aY o) fr o.dst S K:=by
 have hd:=bX (o:=o);have hA:∀ {agj},dy S agj (aM ops o) (aK o)→ ∀t,t∈tmpsOf o.op.operands.toList→agj.get t=S.get t:=fun hA t ht=>hA.get t (.inl (cx ht))
 have DH:∀ {agj},dy S agj (aM ops o) (aK o)→ ∀ch ty x,x∈o.op.operands.toList→bO T agj ch ty x=bO T S ch ty x:=fun dH ch ty x hx=>gg hx (hA dH)
 cases hg:o.guard with
 | none=>
  unfold aQ at h;rw[hg]at h;simp only at h;split at h
  ·rename_i x ho;have hx:∀s,x= .tmp s→s∈aM ops o:=fun s e=>cx (by rw[ho,e];simp[Op.operands,tmpsOf])
   have dP:aY o= .quiet:=by unfold aY;rw[ho]
   rw[dP];refine Still.loc ((Gr h hx hd).congr (fun agj dH agi hk=>?_)) ⟨by simp,by simp⟩;unfold aQ;rw[hg,ho];simp only;rw[DH dH [] o.type x (by rw[ho];simp[Op.operands])];exact hk
  ·rename_i x ho;have hx:∀s,x= .tmp s→s∈aK o:=fun s e=>by unfold aK;rw[ho,e];simp
   have dP:aY o= .quiet:=by unfold aY;rw[ho]
   rw[dP];refine Still.loc ((B8 h hx hd).congr (fun agj dH agi hk=>?_)) ⟨by simp,by simp⟩;unfold aQ;rw[hg,ho];simp only;rw[DH dH [] o.type x (by rw[ho];simp[Op.operands])];exact hk
  ·rename_i t x ho;have dP:aY o= .load:=by unfold aY;rw[ho]
   rw[dP];have Cd:∀ {agj},dy S agj (aM ops o) (aK o)→bO T agj [] 0 x=bO T S [] 0 x:=fun dH=>DH dH [] 0 x (by rw[ho];simp[Op.operands])
   split at h
   ·rename_i l sz k off dq;obtain⟨δ,k1,k2,k3,k4⟩:=AG (R:=aM ops o) (fr:=fr) h (fun s w e=>by cases e) hd;refine⟨δ,k1,k2,k3,fun agj dH hB agi hk=>?_⟩;unfold aQ;rw[hg,ho];simp only;rw[Cd dH,dq];exact k4 agj dH hB agi hk
   ·rename_i l i sz k off dq;obtain⟨δ,k1,k2,k3,k4⟩:=AH (R:=aM ops o) (fr:=fr) h (fun s w e=>by cases e) hd;refine⟨δ,k1,k2,k3,fun agj dH hB agi hk=>?_⟩;unfold aQ;rw[hg,ho];simp only;rw[Cd dH,dq];exact k4 agj dH hB agi hk
   rename_i Gt Gu;have So:∀agj agi,dy S agj (aM ops o) (aK o)→gp T apps agj o.dst t (bO T S [] 0 x) (fun v K=>v.force fun v=>bT agj o.dst v K) agi→(match bO T agj [] 0 x with
     | .bp l sz k off=>oI T agj [] none o.dst t l sz k off agi
     | .el l i sz k off=>oJ T agj [] none o.dst t l i sz k off agi
     | v=>gp T apps agj o.dst t v (fun v K=>v.force fun v=>bT agj o.dst v K) agi):=fun agj agi dH hk=>by
    rw[Cd dH];split
    ·rename_i l sz k off dq;exact(Gt _ _ _ _ dq).elim
    ·rename_i l i sz k off dq;exact(Gu _ _ _ _ _ dq).elim
    ·exact hk
   obtain⟨v,⟨h1,_,h2⟩ | ⟨h1,rr,h2⟩⟩:=nP (KK:=fun S v K=>v.force fun v=>bT S o.dst v K) h
   ·have h1:=(a9 v _).1 h1;obtain⟨δ,k1,k2,k3,k4,k5⟩:=eX (R:=aM ops o) h1 hd;refine⟨δ,k1,k2,k4,fun agj dH hB agi hk=>?_⟩;unfold aQ;rw[hg,ho];simp only;exact So agj agi dH (h2 agj (fun l b _ hb=>hB l b hb) agi ((a9 v _).2 (k5 agj dH agi hk)))
   ·have h1:=(a9 v _).1 h1;obtain⟨δ,k1,k2,k3,k4,k5⟩:=eX (R:=aM ops o) h1 hd;refine⟨δ.HW,⟨k1.get,k1.lock⟩,k2,by rw[Dl.lF];exact k4,fun agj dH hB agi hk=>?_⟩;unfold aQ;rw[hg,ho];simp only;rw[Dl.lF]at hk;exact So agj agi dH (h2 agj (fun l b _ hb=>hB l b hb) agi ((a9 v _).2 (k5 agj dH (fun S=>agi ⟨S.get,S.bx,S.lock,true⟩) hk)))
  ·rename_i t x y ho;have dP:aY o= .store:=by unfold aY;rw[ho]
   rw[dP];have hy:∀s,y= .tmp s→s∈aK o:=fun s e=>by unfold aK;rw[ho,e];simp
   have Cd:∀ {agj},dy S agj (aM ops o) (aK o)→bO T agj [] 0 x=bO T S [] 0 x:=fun dH=>DH dH [] 0 x (by rw[ho];simp[Op.operands])
   have Tz:∀ {agj},dy S agj (aM ops o) (aK o)→bO T agj [] t y=bO T S [] t y:=fun dH=>DH dH [] t y (by rw[ho];simp[Op.operands])
   split at h
   ·rename_i l sz k off dq;obtain⟨δ,k1,k2,k3,k4⟩:=Cb (R:=aM ops o) (W:=aK o) h;refine⟨δ,k1,k2.1,k3,fun agj dH hB agi hk=>?_⟩;unfold aQ;rw[hg,ho];simp only;rw[Cd dH,dq,Tz dH];exact k4 agj dH hB.1 hB.2 agi hk
   ·rename_i l i sz k off dq;obtain⟨δ,k1,k2,k3,k4⟩:=B9 (R:=aM ops o) (W:=aK o) h;refine⟨δ,k1,k2.1,k3,fun agj dH hB agi hk=>?_⟩;unfold aQ;rw[hg,ho];simp only;rw[Cd dH,dq,Tz dH];exact k4 agj dH hB.1 hB.2 agi hk
   ·rename_i Gt Gu;split at h
    ·rename_i l i sz m dq;obtain⟨δ,k1,k2,k3,k4⟩:=Ca (R:=aM ops o) (W:=aK o) h;refine⟨δ,k1,k2.1,k3,fun agj dH hB agi hk=>?_⟩;unfold aQ;rw[hg,ho];simp only;rw[Cd dH,Tz dH];split
     ·rename_i l sz k off dq;exact(Gt _ _ _ _ dq).elim
     ·rename_i l i sz k off dq;exact(Gu _ _ _ _ _ dq).elim
     ·rw[dq];exact k4 agj dH hB.1 hB.2 agi hk
    ·rename_i aan;obtain⟨δ,k1,k2,k3,k4⟩:=we (R:=aM ops o) h hy;refine⟨δ,k1,k2.1,k3,fun agj dH hB agi hk=>?_⟩;unfold aQ;rw[hg,ho];simp only;rw[Cd dH,Tz dH];split
     ·rename_i l sz k off dq;exact(Gt _ _ _ _ dq).elim
     ·rename_i l i sz k off dq;exact(Gu _ _ _ _ _ dq).elim
     ·split
      ·rename_i l i sz m dq;exact(aan _ _ _ _ dq).elim
      ·exact k4 agj dH hB.1 hB.2 agi hk
  ·rename_i t x y ok ho;have dP:aY o= .load:=by unfold aY;rw[ho]
   rw[dP];obtain⟨δ,k1,k2,k3,k4⟩:=Gs (R:=aM ops o) (fr:=fr) h hd;refine⟨δ,k1,k2,k3,fun agj dH hB agi hk=>?_⟩;unfold aQ;rw[hg,ho];simp only;rw[DH dH [] t x (by rw[ho];simp[Op.operands]),DH dH [] 0 y (by rw[ho];simp[Op.operands])];exact k4 agj dH hB agi hk
  ·rename_i t x y z ho;have dP:aY o= .store:=by unfold aY;rw[ho]
   rw[dP];obtain⟨δ,k1,k2,k3,k4⟩:=Cc (R:=aM ops o) (W:=aK o) h;refine⟨δ,k1,k2.1,k3,fun agj dH hB agi hk=>?_⟩;unfold aQ;rw[hg,ho];simp only;rw[DH dH [] t x (by rw[ho];simp[Op.operands]),DH dH [] 0 y (by rw[ho];simp[Op.operands]),DH dH [] 0 z (by rw[ho];simp[Op.operands])];exact k4 agj dH hB.1 hB.2 agi hk
  ·rename_i t ho;have dP:aY o= .alloc:=by unfold aY;rw[ho]
   rw[dP];obtain⟨δ,k1,k2,k3,k4⟩:=Eg (R:=aM ops o) (fr:=fr) h hd;refine⟨δ,k1,k2,k3,fun agj dH hB agi hk=>?_⟩;unfold aQ;rw[hg,ho];exact k4 agj dH hB agi hk
  ·rename_i t x y ho;have dP:aY o= .alloc:=by unfold aY;rw[ho]
   rw[dP];obtain⟨δ,k1,k2,k3,k4⟩:=zU (R:=aM ops o) (fr:=fr) h hd;refine⟨δ,k1,k2,k3,fun agj dH hB agi hk=>?_⟩;unfold aQ;rw[hg,ho];simp only;rw[DH dH [] 3 x (by rw[ho];simp[Op.operands]),DH dH [] 3 y (by rw[ho];simp[Op.operands])];exact k4 agj dH hB agi hk
  ·rename_i e ho;have dP:aY o= .alloc:=by unfold aY;rw[ho]
   rw[dP];obtain⟨δ,k1,k2,k3,k4⟩:=J0 (R:=aM ops o) (fr:=fr) h hd;refine⟨δ,k1,k2,k3,fun agj dH hB agi hk=>?_⟩;unfold aQ;rw[hg,ho];exact k4 agj dH hB agi hk
  ·rename_i e x ho;have dP:aY o= .alloc:=by unfold aY;rw[ho]
   rw[dP];have hx:∀s,x= .tmp s→s∈aK o:=fun s e=>by unfold aK;rw[ho,e];simp
   obtain⟨δ,k1,k2,k3,k4⟩:=PM (R:=aM ops o) (fr:=fr) h hd hx;refine⟨δ,k1,k2,k3,fun agj dH hB agi hk=>?_⟩;unfold aQ;rw[hg,ho];simp only;rw[DH dH [] e x (by rw[ho];simp[Op.operands])];exact k4 agj dH hB agi hk
  ·rename_i t len parts ho;have dP:aY o= .quiet:=by unfold aY;rw[ho]
   rw[dP];refine Still.loc ((lG (R:=aM ops o) h (fun s w e=>by cases e) hd).congr (fun agj dH agi hk=>?_)) ⟨by simp,by simp⟩;unfold aQ;rw[hg,ho];simp only;have hp:∀p,p∈parts.toList→bO T agj [] 0 p.2=bO T S [] 0 p.2:=fun p hp=>DH dH [] 0 p.2 (by rw[ho];exact AF hp)
   have e1:jv T (bO T agj [] 0) t len parts.toList=jv T (bO T S [] 0) t len parts.toList:=by
    unfold jv;split
    ·rw[wc _ _ hp,ya _ _ hp]
    ·rfl
   rw[e1];exact hk
  ·rename_i f args tys ho;have dP:aY o= .call:=by unfold aY;rw[ho]
   rw[dP];obtain⟨δ,k1,k2,k3,k4⟩:=AI (R:=aM ops o) h hd;refine⟨δ,k1,k2,k3,fun agj dH hB agi hk=>?_⟩;unfold aQ;rw[hg,ho];simp only;rw[lr (l:=o.op.operands.toList) (fun x hx=>by rw[ho];simp only[Op.operands,Call.operands];simp;exact .inr (by simpa using hx)) (hA dH)];exact k4 agj dH hB agi hk
  ·rename_i s args tys ho;have dP:aY o= .call:=by unfold aY;rw[ho]
   rw[dP];split at h
   ·rename_i f us vs hf;obtain⟨δ,k1,k2,k3,k4⟩:=AI (R:=aM ops o) h hd;refine⟨δ,k1,k2,k3,fun agj dH hB agi hk=>?_⟩;unfold aQ;rw[hg,ho];simp only;have hsg:agj.get s=S.get s:=hA dH s (by rw[ho];simp[Op.operands,Call.operands,tmpsOf]);rw[hsg,hf];simp only;rw[lr (l:=o.op.operands.toList) (fun x hx=>by rw[ho];simp only[Op.operands,Call.operands];simp;exact .inr (by simpa using hx)) (hA dH)];exact k4 agj dH hB agi hk
   ·exact h.elim
  ·rename_i args tys ho;exfalso;apply hc;unfold aY;rw[ho]
  ·rename_i n1 n2 n3 n4 n4a n4b n4c n4d n5 n6 n7 n8 n9 Xc;have e:∀agj agi,aQ T J ops apps fr o agj agi=match g9 T (bO T agj []) o with
     | some r=>gX agj o.dst [] none r agi
     | none=>gX agj o.dst [] none (bn T agj [] o) agi:=fun agj agi=>by
    unfold aQ;rw[hg];simp only;rfl
   have j3:Still (fun S K=>aQ T J ops apps fr o S K) (aM ops o) (aK o) S K:=by
    split at h
    ·rename_i r hr;exact(lG (R:=aM ops o) h (fun s w e=>by cases e) hd).congr (G:=fun S K=>aQ T J ops apps fr o S K) (fun agj dH agi hk=>by
      rw[e,mC (hA dH),hr];exact hk)
    ·rename_i hr;exact(lG (R:=aM ops o) h (fun s w e=>by cases e) hd).congr (G:=fun S K=>aQ T J ops apps fr o S K) (fun agj dH agi hk=>by
      rw[e,mC (hA dH),hr,tB (hA dH)];exact hk)
   obtain⟨δ,k1,k2,k3,k4,k5⟩:=j3;refine⟨δ,k1,?_,k4,fun agj dH _=>k5 agj dH⟩;have:aY o≠ .alloc:=by
    unfold aY;split<;>first | (intro e;cases e) | skip
    ·rename_i e ho;exact absurd ho (n5 e)
    ·rename_i e x ho;exact absurd ho (n6 e x)
    ·rename_i e ho;exact absurd ho (n4c e)
    ·rename_i e x y ho;exact absurd ho (n4d e x y)
   cases dP:aY o with
   | quiet=>exact⟨k2,k3⟩
   | load=>exact k2
   | alloc=>exact absurd dP this
   | call=>exact⟨fun _=>k2,k3⟩
   | store=>exact k3
   | fN=>exact absurd dP hc
 | some jw=>
  obtain⟨j,w⟩:=jw;unfold aQ at h;rw[hg]at h;simp only at h;have FF:∀t,t∈rN ops 8 j→t∈aM ops o:=fun t ht=>by
   unfold aM;rw[hg];exact List.mem_append_right _ ht
  cases kC:mJ ops j with
  | none=>rw[kC]at h;exact h.elim
  | some s=>
   rw[kC]at h;simp only at h;have hs:s∈aM ops o:=FF s (zV kC);cases hch:chain ops S 8 j w with
   | none=>rw[hch]at h;exact h.elim
   | some ch=>
    rw[hch]at h;simp only at h;have Ce:∀ {agj},dy S agj (aM ops o) (aK o)→chain ops agj 8 j w=some ch:=fun dH=>by
     rw[wg 8 (fun t ht=>dH.get t (.inl (FF t ht))),hch]
    have Pe:∀agb w',some (s,w)=some (agb,w')→agb∈aM ops o:=fun agb w' e=>by cases e;exact hs
    split at h
    ·rename_i x ho;have dP:aY o= .quiet:=by unfold aY;rw[ho]
     rw[dP];generalize hv:(bO T S ch o.type x).lf=v at h;have h:gX S o.dst ch (some (s,w)) (.val v) K∧v≠ .dead:=by
      cases v<;>first | exact h.elim | exact⟨h,by simp⟩
     refine Still.loc ((lG h.1 Pe hd).congr (fun agj dH agi hk=>?_)) ⟨by simp,by simp⟩;unfold aQ;rw[hg];simp only;rw[kC,Ce dH,ho];simp only;rw[DH dH ch o.type x (by rw[ho];simp[Op.operands]),hv];have:=h.2;cases v<;>first | exact absurd rfl this | exact hk
    ·rename_i t x ho;have dP:aY o= .load:=by unfold aY;rw[ho]
     rw[dP];have Cd:∀ {agj},dy S agj (aM ops o) (aK o)→bO T agj ch 0 x=bO T S ch 0 x:=fun dH=>DH dH ch 0 x (by rw[ho];simp[Op.operands])
     split at h
     ·rename_i l sz k off dq;obtain⟨δ,k1,k2,k3,k4⟩:=AG (R:=aM ops o) (fr:=fr) h Pe hd;refine⟨δ,k1,k2,k3,fun agj dH hB agi hk=>?_⟩;unfold aQ;rw[hg];simp only;rw[kC,Ce dH,ho];simp only;rw[Cd dH,dq];exact k4 agj dH hB agi hk
     ·rename_i l i sz k off dq;obtain⟨δ,k1,k2,k3,k4⟩:=AH (R:=aM ops o) (fr:=fr) h Pe hd;refine⟨δ,k1,k2,k3,fun agj dH hB agi hk=>?_⟩;unfold aQ;rw[hg];simp only;rw[kC,Ce dH,ho];simp only;rw[Cd dH,dq];exact k4 agj dH hB agi hk
     rename_i Gt Gu;obtain⟨v,⟨h1,_,h2⟩ | ⟨h1,rr,h2⟩⟩:=nP (KK:=fun S v K=>gX S o.dst ch (some (s,w)) (.val v) K) h
     ·obtain⟨δ,k1,k2,k3,k4,k5⟩:=qJ h1 Pe hd;refine⟨δ,k1,k2,k4,fun agj dH hB agi hk=>?_⟩;unfold aQ;rw[hg];simp only;rw[kC,Ce dH,ho];simp only;rw[Cd dH];split
      ·rename_i l sz k off dq;exact(Gt _ _ _ _ dq).elim
      ·rename_i l i sz k off dq;exact(Gu _ _ _ _ _ dq).elim
      ·exact h2 agj (fun l b _ hb=>hB l b hb) agi (k5 agj dH agi hk)
     ·obtain⟨δ,k1,k2,k3,k4,k5⟩:=qJ h1 Pe hd;refine⟨δ.HW,⟨k1.get,k1.lock⟩,k2,by rw[Dl.lF];exact k4,fun agj dH hB agi hk=>?_⟩;unfold aQ;rw[hg];simp only;rw[kC,Ce dH,ho];simp only;rw[Dl.lF]at hk;rw[Cd dH];split
      ·rename_i l sz k off dq;exact(Gt _ _ _ _ dq).elim
      ·rename_i l i sz k off dq;exact(Gu _ _ _ _ _ dq).elim
      ·exact h2 agj (fun l b _ hb=>hB l b hb) agi (k5 agj dH (fun S=>agi ⟨S.get,S.bx,S.lock,true⟩) hk)
    ·rename_i f args tys ho;have dP:aY o= .call:=by unfold aY;rw[ho]
     rw[dP];obtain⟨δ,k1,k2,k3,k4⟩:=tG (R:=aM ops o) h Pe hd;refine⟨δ,k1,k2,k3,fun agj dH hB agi hk=>?_⟩;unfold aQ;rw[hg];simp only;rw[kC,Ce dH,ho];simp only;rw[lr (l:=o.op.operands.toList) (fun x hx=>by rw[ho];simp only[Op.operands,Call.operands];simp;exact .inr (by simpa using hx)) (hA dH)];exact k4 agj dH hB agi hk
    ·rename_i agb args tys ho;have dP:aY o= .call:=by unfold aY;rw[ho]
     rw[dP];split at h
     ·rename_i f us vs hf;obtain⟨δ,k1,k2,k3,k4⟩:=tG (R:=aM ops o) h Pe hd;refine⟨δ,k1,k2,k3,fun agj dH hB agi hk=>?_⟩;unfold aQ;rw[hg];simp only;rw[kC,Ce dH,ho];simp only;have hsg:agj.get agb=S.get agb:=hA dH agb (by rw[ho];simp[Op.operands,Call.operands,tmpsOf]);rw[hsg,hf];simp only;rw[lr (l:=o.op.operands.toList) (fun x hx=>by rw[ho];simp only[Op.operands,Call.operands];simp;exact .inr (by simpa using hx)) (hA dH)];exact k4 agj dH hB agi hk
     ·exact h.elim
    ·rename_i t x y ho;have dP:aY o= .load:=by unfold aY;rw[ho]
     rw[dP];have sg:jy T S t (bO T S ch t x) (bO T S ch 0 y)≠ .no:=fun e=>by rw[e]at h;exact h
     obtain⟨δ,k1,k2,k3,k4,k5⟩:=qJ h Pe hd;refine⟨δ,k1,k2,k4,fun agj dH hB agi hk=>?_⟩;unfold aQ;rw[hg];simp only;rw[kC,Ce dH,ho];simp only;rw[DH dH ch t x (by rw[ho];simp[Op.operands]),DH dH ch 0 y (by rw[ho];simp[Op.operands]),JU hB sg];exact k5 agj dH agi hk
    ·rename_i n1 n2 n3 n4 n5;have e:∀agj agi,dy S agj (aM ops o) (aK o)→aQ T J ops apps fr o agj agi=match g9 T (bO T agj ch) o with
       | some r=>gX agj o.dst ch (some (s,w)) r agi
       | none=>gX agj o.dst ch (some (s,w)) (bn T agj ch o) agi:=fun agj agi dH=>by
      unfold aQ;rw[hg];simp only;rw[kC,Ce dH];rfl
     have j3:Still (fun S K=>aQ T J ops apps fr o S K) (aM ops o) (aK o) S K:=by
      split at h
      ·rename_i r hr;exact(lG h Pe hd).congr (G:=fun S K=>aQ T J ops apps fr o S K) (fun agj dH agi hk=>by
        rw[e agj agi dH,mC (hA dH),hr];exact hk)
      ·rename_i hr;exact(lG h Pe hd).congr (G:=fun S K=>aQ T J ops apps fr o S K) (fun agj dH agi hk=>by
        rw[e agj agi dH,mC (hA dH),hr,tB (hA dH)];exact hk)
     have Ei:aY o≠ .alloc:=fun dP=>by
      have:bn T S ch o= .no:=by
       unfold aY at dP;split at dP<;>first | (cases dP) | skip
       ·rename_i e ho;unfold bn;rw[ho]
       ·rename_i e x ho;unfold bn;rw[ho]
       ·rename_i e ho;unfold bn;rw[ho]
       ·rename_i e x y ho;unfold bn;rw[ho]
      split at h
      ·rename_i r hr;rw[J2 hr]at dP;cases dP
      ·rw[this]at h;exact h
     obtain⟨δ,k1,k2,k3,k4,k5⟩:=j3;refine⟨δ,k1,?_,k4,fun agj dH _=>k5 agj dH⟩;cases dP:aY o with
     | quiet=>exact⟨k2,k3⟩
     | load=>exact k2
     | alloc=>exact absurd dP Ei
     | call=>exact⟨fun _=>k2,k3⟩
     | store=>exact k3
     | fN=>exact absurd dP hc
end
section
variable {S agj:St} {K:St→Prop} {T:TE} {J:uF}
theorem yc{l:List Nat}{t:Nat} :wQ l t=true↔t∈l:=by
 induction l with
 | nil=>simp[wQ]
 | cons s r ih=>
  unfold wQ;cases hb:Nat.beq s t with
  | true=>simp[beq_true.1 hb]
  | false=>simp only[cond_false,ih,List.mem_cons];exact⟨.inr,fun h=>h.elim (fun e=>absurd e.symm (beq_false.1 hb)) id⟩
theorem bQ{a b:List Nat}(h:gQ a b=true){t:Nat}(h1:t∈a)(h2:t∈b):False:=by
 have:=List.all_eq_true.1 h t h1;rw[yc.2 h2]at this;cases this
theorem kR{δ:Dl}(h:∀l,δ.pb l=none):(δ.app S).bx=S.bx:=by
 funext l;show(match δ.pb l with | some b=>some b | none=>S.bx l)=_;rw[h l]
theorem nc{δ:Dl}{l:Loc}(h:δ.pb l=none):(δ.app S).bx l=S.bx l:=by
 show(match δ.pb l with | some b=>some b | none=>S.bx l)=_;rw[h]
theorem u9{δ:Dl}(h:δ.lb=false):(δ.app S).aJ=S.aJ:=by
 show(δ.lb||S.aJ)=_;rw[h];rfl
theorem nQ{δ:Dl}{t:Nat}(h:δ.pg t=none):(δ.app S).get t=S.get t:=by
 show(match δ.pg t with | some v=>v | none=>S.get t)=_;rw[h]
theorem yd{iR ij:Dl}(hg:∀t,iR.pg t=none∨ij.pg t=none)(hb:∀l,iR.pb l=none∨ij.pb l=none):iR.app (ij.app S)=ij.app (iR.app S):=by
 refine St.ext' (fun t=>?_) (fun l=>?_) (fun t=>?_) ?_
 ·show(match iR.pg t with | some v=>v | none=>(match ij.pg t with | some v=>v | none=>S.get t))=(match ij.pg t with | some v=>v | none=>(match iR.pg t with | some v=>v | none=>S.get t));rcases hg t with h | h<;>rw[h]
 ·show(match iR.pb l with | some b=>some b | none=>(match ij.pb l with | some b=>some b | none=>S.bx l))=(match ij.pb l with | some b=>some b | none=>(match iR.pb l with | some b=>some b | none=>S.bx l));rcases hb l with h | h<;>rw[h]
 ·show(iR.lk t||(ij.lk t||S.lock t))=(ij.lk t||(iR.lk t||S.lock t));cases iR.lk t<;>cases ij.lk t<;>rfl
 ·show(iR.lb||(ij.lb||S.aJ))=(ij.lb||(iR.lb||S.aJ));cases iR.lb<;>cases ij.lb<;>rfl
theorem Mg{F1 F2:St→(St→Prop)→Prop}{R1 W1 R2 W2:List Nat}{c1 c2:BI}{Sp Sq:Bool}{e1 e2:Option Nat}(hL1:∀S K,F1 S K→gI F1 R1 W1 c1 Sp e1 S K)(hL2:∀S K,F2 S K→gI F2 R2 W2 c2 Sq e2 S K)
  (TA:∀k,e1=some k→k∈W1) (Sr:∀k,e2=some k→k∈W2) (dW:c1.free c2=true) (d1:gQ R1 W2=true) (d2:gQ W1 R2=true) (d3:gQ W1 W2=true)
  (h1:c1= .call→c2≠ .quiet→Sp=true) (h2:c2= .call→c1≠ .quiet→Sq=true) (h:F1 S fun S1=>F2 S1 K):F2 S fun S2=>F1 S2 K:=by
 have si:c1≠ .fN:=fun e=>by rw[e]at dW;cases dW
 have mj:c2≠ .fN:=fun e=>by
  rw[e]at dW;cases hc:c1<;>rw[hc]at dW<;>cases dW
 obtain⟨iR,w1,b1,h,r1⟩:=hL1 _ _ h;obtain⟨ij,w2,b2,h,r2⟩:=hL2 _ _ h;have pg1:∀t,t∈R2∨t∈W2→iR.pg t=none:=fun t ht=>by
  rcases Option.eq_none_or_eq_some (iR.pg t)with e | ⟨v,e⟩
  ·exact e
  ·have hw:=w1.get t (by rw[e];simp);rcases ht with ht | ht
   ·exact(bQ d2 hw ht).elim
   ·exact(bQ d3 hw ht).elim
 have Xd:∀t,t∈R1∨t∈W1→ij.pg t=none:=fun t ht=>by
  rcases Option.eq_none_or_eq_some (ij.pg t)with e | ⟨v,e⟩
  ·exact e
  ·have hw:=w2.get t (by rw[e];simp);rcases ht with ht | ht
   ·exact(bQ d1 ht hw).elim
   ·exact(bQ d3 ht hw).elim
 have a2:dy (iR.app S) S R2 W2:=⟨fun t ht=>(nQ (pg1 t ht)).symm,fun t ht=>by
  show S.lock t=(iR.lk t||S.lock t);cases D4:iR.lk t with
  | false=>rfl
  | true=>exact(bQ d1 (w1.lock t D4) ht).elim⟩
 have a1:dy S (ij.app S) R1 W1:=⟨fun t ht=>nQ (Xd t ht),fun t ht=>by
  show(ij.lk t||S.lock t)=S.lock t;cases D4:ij.lk t with
  | false=>rfl
  | true=>exact(bQ d2 ht (w2.lock t D4)).elim⟩
 have hg:∀t,iR.pg t=none∨ij.pg t=none:=fun t=>by
  rcases Option.eq_none_or_eq_some (iR.pg t)with e | ⟨v,e⟩
  ·exact .inl e
  ·exact .inr (Xd t (.inr (w1.get t (by rw[e];simp))))
 have Xe:∀k,e1=some k→e2≠some k:=fun k q1 q2=>bQ d3 (TA k q1) (Sr k q2)
 have fin:(∀l,iR.pb l=none∨ij.pb l=none)→HX c2 Sq e2 (iR.app S) S→HX c1 Sp e1 S (ij.app S)→F2 S fun S2=>F1 S2 K:=fun hb n2 n1=>
  r2 S a2 n2 _ (r1 (ij.app S) a1 n1 _ (by rw[yd hg hb];exact h))
 cases r7:c1 with
 | fN=>exact absurd r7 si
 | quiet=>
  rw[r7]at b1 fin;obtain⟨p1,q1⟩:=b1;refine fin (fun l=> .inl (p1 l)) ?_ trivial;have e1:=kR (S:=S) p1;have e2:=u9 (S:=S) q1;cases nz:c2 with
  | fN=>exact absurd nz mj
  | quiet=>trivial
  | load=>intro l b hb;rw[e1]at hb;exact hb
  | alloc=>intro k _;rw[e1]
  | call=>intro _;exact⟨e1.symm,e2.symm⟩
  | store=>exact⟨e1.symm,e2.symm⟩
 | load=>
  rw[r7]at b1 fin h2 dW;have p1:∀l,iR.pb l=none:=b1
  have e1:=kR (S:=S) p1;cases nz:c2 with
  | fN=>exact absurd nz mj
  | quiet=>
   rw[nz]at b2 fin;exact fin (fun l=> .inl (p1 l)) trivial (fun l b hb=>by rw[kR b2.1];exact hb)
  | load=>
   rw[nz]at b2 fin;exact fin (fun l=> .inl (p1 l)) (fun l b hb=>by rw[e1]at hb;exact hb) (fun l b hb=>by rw[kR b2];exact hb)
  | alloc=>
   rw[nz]at b2 fin;obtain⟨p2,q2,z2⟩:=b2;refine fin (fun l=> .inl (p1 l)) (fun k _=>by rw[e1]) (fun l b hb=>?_);have:ij.pb l=none:=by
    rcases Option.eq_none_or_eq_some (ij.pb l)with e | ⟨v,e⟩
    ·exact e
    ·obtain⟨k,rfl,hk⟩:=p2 l (by rw[e];simp);have:=z2 k hk;rw[e1,hb]at this;cases this
   rw[nc this];exact hb
  | call=>
   rw[nz]at b2 fin h2;have lp:=h2 rfl (by simp);subst lp;exact fin (fun l=> .inl (p1 l)) (fun e=>by cases e) (fun l b hb=>by rw[kR (b2.1 rfl)];exact hb)
  | store=>rw[nz]at dW;cases dW
 | alloc=>
  rw[r7]at b1 fin h2 dW;obtain⟨p1,q1,z1⟩:=b1;cases nz:c2 with
  | fN=>exact absurd nz mj
  | quiet=>
   rw[nz]at b2 fin;exact fin (fun l=> .inr (b2.1 l)) trivial (fun k hk=>by rw[kR b2.1])
  | load=>rw[nz]at dW;cases dW
  | alloc=>
   rw[nz]at b2 fin;obtain⟨p2,q2,z2⟩:=b2;have n1:∀k,e2=some k→iR.pb (.own k)=none:=fun k hk=>by
    rcases Option.eq_none_or_eq_some (iR.pb (.own k))with e | ⟨v,e⟩
    ·exact e
    ·obtain⟨agc,agm,b9⟩:=p1 _ (by rw[e];simp);cases agm;exact absurd hk (Xe k b9)
   have n2:∀k,e1=some k→ij.pb (.own k)=none:=fun k hk=>by
    rcases Option.eq_none_or_eq_some (ij.pb (.own k))with e | ⟨v,e⟩
    ·exact e
    ·obtain⟨agc,agm,b9⟩:=p2 _ (by rw[e];simp);cases agm;exact absurd b9 (Xe k hk)
   refine fin (fun l=>?_) (fun k hk=>(nc (n1 k hk)).symm) (fun k hk=>nc (n2 k hk));rcases Option.eq_none_or_eq_some (iR.pb l)with e | ⟨v,e⟩
   ·exact .inl e
   ·obtain⟨agc,rfl,b9⟩:=p1 l (by rw[e];simp);exact .inr (n2 agc b9)
  | call=>
   rw[nz]at b2 fin h2;have lp:=h2 rfl (by simp);subst lp;exact fin (fun l=> .inr (b2.1 rfl l)) (fun e=>by cases e) (fun k hk=>by rw[kR (b2.1 rfl)])
  | store=>rw[nz]at dW;cases dW
 | call=>
  rw[r7]at b1 fin h2 dW h1;obtain⟨p1,q1⟩:=b1;cases nz:c2 with
  | fN=>exact absurd nz mj
  | quiet=>
   rw[nz]at b2 fin;exact fin (fun l=> .inr (b2.1 l)) trivial (fun _=>⟨kR b2.1,u9 b2.2⟩)
  | load=>
   rw[nz]at b2 fin h1;have lp:=h1 rfl (by simp);subst lp;exact fin (fun l=> .inl (p1 rfl l)) (fun l b hb=>by rw[kR (p1 rfl)]at hb;exact hb) (fun e=>by cases e)
  | alloc=>
   rw[nz]at b2 fin h1;have lp:=h1 rfl (by simp);subst lp;exact fin (fun l=> .inl (p1 rfl l)) (fun k hk=>by rw[kR (p1 rfl)]) (fun e=>by cases e)
  | call=>
   rw[nz]at b2 fin h1 h2;have lp:=h1 rfl (by simp);have aat:=h2 rfl (by simp);subst lp;subst aat;exact fin (fun l=> .inl (p1 rfl l)) (fun e=>by cases e) (fun e=>by cases e)
  | store=>rw[nz]at dW;cases dW
 | store=>
  rw[r7]at b1 fin h2 dW;cases nz:c2 with
  | fN=>exact absurd nz mj
  | quiet=>
   rw[nz]at b2 fin;exact fin (fun l=> .inr (b2.1 l)) trivial ⟨kR b2.1,u9 b2.2⟩
  | _=>rw[nz]at dW;cases dW
theorem swap{ops:List Oper}{apps:List Nat}{Sp Sq:Bool}{o1 o2:Oper}(hf:mY ops o1 o2=true)(h1:aY o1= .call→aY o2≠ .quiet→Sp=true)(h2:aY o2= .call→aY o1≠ .quiet→Sq=true)
  (h:aQ T J ops apps Sp o1 S fun S1=>aQ T J ops apps Sq o2 S1 K):aQ T J ops apps Sq o2 S fun S2=>aQ T J ops apps Sp o1 S2 K:=by
 unfold mY at hf;simp only[Bool.and_eq_true]at hf;obtain⟨⟨⟨dW,d1⟩,d2⟩,d3⟩:=hf;have si:aY o1≠ .fN:=fun e=>by rw[e]at dW;cases dW
 have mj:aY o2≠ .fN:=fun e=>by
  rw[e]at dW;cases hc:aY o1<;>rw[hc]at dW<;>cases dW
 exact Mg (fun _ _ h=>fG si h) (fun _ _ h=>fG mj h) bX bX dW d1 d2 d3 h1 h2 h
end
def nR(A:List Nat)(s:Nat)(e:Edge):Nat:=if Region.binds .any e then s||| 2 ^ e.on||| (A.getD e.on 0)else s
theorem Ej{A:List Nat} :∀(es:List Edge) (s:Nat) (j:Nat),Nat.testBit (es.foldl (nR A) s) j=true→Nat.testBit s j=true∨ ∃e,e∈es∧Region.binds .any e=true∧(j=e.on∨Nat.testBit (A.getD e.on 0) j=true)
 | [],s,j,h=> .inl h
 | e::r,s,j,h=>by
  rcases Ej r (nR A s e) j h with h | ⟨agm,h1,h2,h3⟩
  ·unfold nR at h;split at h
   ·rename_i hb;rw[Nat.testBit_or,Nat.testBit_or,Nat.testBit_two_pow]at h;simp only[Bool.or_eq_true,decide_eq_true_eq]at h;rcases h with(h | h) | h
    ·exact .inl h
    ·exact .inr ⟨e,List.mem_cons_self,hb,.inl h.symm⟩
    ·exact .inr ⟨e,List.mem_cons_self,hb,.inr h⟩
   ·exact .inl h
  ·exact .inr ⟨agm,List.mem_cons_of_mem _ h1,h2,h3⟩
theorem nS(o:Oper)(r:List Oper)(acc:List Nat):fa (o::r) acc=fa r (acc++ [o.after.toList.foldl (nR acc) 0]):=rfl
theorem wh:∀(l:List Oper) (acc:List Nat),∃t,fa l acc=acc++t
 | [],acc=>⟨[],by simp[fa]⟩
 | o::r,acc=>by
  obtain⟨t,ht⟩:=wh r (acc++ [o.after.toList.foldl (nR acc) 0]);exact⟨_,by rw[nS,ht,List.append_assoc]⟩
theorem nd{α:Type}{l t:List α}{i:Nat}{x:α}(h:i<l.length):(l++t).getD i x=l.getD i x:=by
 rw[List.getD_eq_getElem?_getD,List.getElem?_append_left h,List.getD_eq_getElem?_getD]
theorem HY:∀(l:List Oper) (acc:List Nat) (k:Nat) (o:Oper),l[k]? =some o→(∀e,e∈o.after.toList→Region.binds .any e=true→e.on<acc.length+k)→ ∀j,Nat.testBit ((fa l acc).getD (acc.length+k) 0) j=true→
  ∃e,e∈o.after.toList∧Region.binds .any e=true∧(j=e.on∨Nat.testBit ((fa l acc).getD e.on 0) j=true)
 | [],acc,k,o,h,_,_,_=>by simp at h
 | p::r,acc,0,o,h,he,j,hj=>by
  simp only[List.getElem?_cons_zero,Option.some.injEq]at h;subst h;obtain⟨t,ht⟩:=wh r (acc++ [p.after.toList.foldl (nR acc) 0]);rw[nS,ht]at hj ⊢;have e1:(acc++ [p.after.toList.foldl (nR acc) 0]++t).getD (acc.length+0) 0=p.after.toList.foldl (nR acc) 0:=by
   rw[nd (by simp)];simp[List.getD_eq_getElem?_getD]
  rw[e1]at hj;rcases Ej _ _ _ hj with h | ⟨e,h1,h2,h3⟩
  ·simp at h
  ·refine⟨e,h1,h2,h3.imp id fun h=>?_⟩;have hl:=he e h1 h2;rw[List.append_assoc,nd (by omega)];exact h
 | p::r,acc,k+1,o,h,he,j,hj=>by
  rw[nS]at hj ⊢;have e1:acc.length+(k+1)=(acc++ [p.after.toList.foldl (nR acc) 0]).length+k:=by simp;omega
  rw[e1]at hj he;exact HY r _ k o (by simpa using h) he j hj
theorem wi:∀(l:List Oper) (i k:Nat) (o:Oper),mu l i=true→l[k]? =some o→ ∀e,e∈o.after.toList→Region.binds .any e=true→e.on<i+k
 | [],_,k,o,_,h=>by simp at h
 | p::r,i,0,o,h,ho=>by
  simp only[List.getElem?_cons_zero,Option.some.injEq]at ho;subst ho;intro e he hb;simp only[mu,Bool.and_eq_true]at h;have:=List.all_eq_true.1 h.1 e he;rw[hb]at this;have:Nat.blt e.on i=true:=by simpa using this
  have:=Nat.le_of_ble_eq_true this;omega
 | p::r,i,k+1,o,h,ho=>by
  simp only[mu,Bool.and_eq_true]at h;intro e he hb;have:=wi r (i+1) k o h.2 (by simpa using ho) e he hb;omega
theorem wj{ops:List Oper}{bef:Nat}{o:Oper} :∀(l:List Oper) (j k:Nat) (p:Oper),qw ops bef o l j=true→l[k]? =some p→Nat.testBit bef (j+k)=true∨mY ops p o=true
 | [],_,k,p,_,h=>by simp at h
 | q::r,j,0,p,h,hp=>by
  simp only[List.getElem?_cons_zero,Option.some.injEq]at hp;subst hp;simp only[qw,Bool.and_eq_true,Bool.or_eq_true]at h;exact h.1
 | q::r,j,k+1,p,h,hp=>by
  simp only[qw,Bool.and_eq_true]at h;have:=wj r (j+1) k p h.2 (by simpa using hp);rw[show j+(k+1)=j+1+k by omega];exact this
theorem wk{ops:List Oper}{bef:List Nat} :∀(l:List Oper) (i k:Nat) (o:Oper),sV ops bef l i=true→l[k]? =some o→qw ops (bef.getD (i+k) 0) o (fe ops (i+k)) 0=true
 | [],_,k,o,_,h=>by simp at h
 | q::r,i,0,o,h,ho=>by
  simp only[List.getElem?_cons_zero,Option.some.injEq]at ho;subst ho;simp only[sV,Bool.and_eq_true]at h;exact h.1
 | q::r,i,k+1,o,h,ho=>by
  simp only[sV,Bool.and_eq_true]at h;have:=wk r (i+1) k o h.2 (by simpa using ho);rw[show i+(k+1)=i+1+k by omega];exact this
theorem mO{bef:List Nat}{i:Nat} :∀(l:List Oper) (j k:Nat) (a:Oper),l[k]? =some a→i≠j+k→aY a≠ .quiet→Nat.testBit (bef.getD i 0) (j+k)=false→Nat.testBit (bef.getD (j+k) 0) i=false→gH bef i l j=true
 | [],_,k,a,h,_,_,_,_=>by simp at h
 | q::r,j,0,a,h,dA,hc,h1,h2=>by
  simp only[List.getElem?_cons_zero,Option.some.injEq]at h;subst h;unfold gH;rw[Bool.or_eq_true];left;have e1:Nat.beq i j=false:=beq_false.2 (by simpa using dA);have h1:Nat.testBit (bef.getD i 0) j=false:=by simpa using h1
  have h2:Nat.testBit (bef.getD j 0) i=false:=by simpa using h2
  rw[e1,h1,h2];cases hq:aY q with
  | quiet=>exact absurd hq hc
  | _=>rfl
 | q::r,j,k+1,a,h,dA,hc,h1,h2=>by
  unfold gH;rw[Bool.or_eq_true];right;have e:j+(k+1)=j+1+k:=by omega
  rw[e]at dA h1 h2;exact mO r (j+1) k a (by simpa using h) dA hc h1 h2
theorem wm{ops:List Oper}{bef:List Nat} :∀(l:List Oper) (i k:Nat) (o:Oper),l[k]? =some o→(qx ops bef l i)[k]? =some ((aY o).Jy (gH bef (i+k) ops 0))
 | [],_,k,o,h=>by simp at h
 | q::r,i,0,o,h=>by
  simp only[List.getElem?_cons_zero,Option.some.injEq]at h;subst h;simp[qx]
 | q::r,i,k+1,o,h=>by
  have:=wm (ops:=ops) (bef:=bef) r (i+1) k o (by simpa using h);rw[show i+(k+1)=i+1+k by omega];simpa [qx]using this
theorem Ek:∀(l:List Oper) (bs:List Bool) (i:Nat) (o:Oper) (b:Bool),l[i]? =some o→bs[i]? =some b→(kA l bs)[i]? =some (o,b)
 | [],_,i,o,b,h,_=>by simp at h
 | p::r,[],i,o,b,_,h=>by simp at h
 | p::r,c::bs,0,o,b,h,hb=>by simp at h hb;subst h;subst hb;rfl
 | p::r,c::bs,i+1,o,b,h,hb=>by
  have:=Ek r bs i o b (by simpa using h) (by simpa using hb);simpa [kA]using this
section
variable {P:Program} {T:TE} {n:Nat} {g0 g g':G} {w0 w w':World} {S:St} {a:Act} {K:St→Prop}
theorem Gv{J:uF}{ops:List Oper}{apps:List Nat}{fr:Bool}{o:Oper}{agi:St→Prop}(hc:aY o≠ .fN)(hk:∀S,K S→agi S)(h:aQ T J ops apps fr o S K):aQ T J ops apps fr o S agi:=by
 obtain⟨δ,h1,h2,h3,h4⟩:=fG hc h;refine h4 S ⟨fun _ _=>rfl,fun _ _=>rfl⟩ ?_ agi (hk _ h3);cases dP:aY o with
 | quiet=>trivial
 | load=>exact fun l b h=>h
 | alloc=>exact fun k _=>rfl
 | call=>exact fun _=>⟨rfl,rfl⟩
 | store=>exact⟨rfl,rfl⟩
 | fN=>exact absurd dP hc
structure Mh(ops:List Oper)(p q:Oper×Bool):Prop where
 free:mY ops p.1 q.1=true
 Sp:aY p.1= .call→aY q.1≠ .quiet→p.2=true
 Sq:aY q.1= .call→aY p.1≠ .quiet→q.2=true
theorem Mh.fN{ops:List Oper}{p q:Oper×Bool}(h:Mh ops p q):aY p.1≠ .fN:=fun e=>by
 have:=h.free;unfold mY at this;rw[e]at this;simp[BI.free]at this
def kS{ι:Type}(F:ι→St→(St→Prop)→Prop):List ι→St→(St→Prop)→Prop
 | [],S,K=>K S
 | p::r,S,K=>F p S fun S=>kS F r S K
def Sw{ι:Type}(F:ι→St→(St→Prop)→Prop)(p q:ι):Prop:=∀(S:St) (K:St→Prop),(F p S fun S1=>F q S1 K)→F q S fun S2=>F p S2 K
theorem front{ι:Type}{F:ι→St→(St→Prop)→Prop}{q:ι}{post:List ι} :∀(pre:List ι) (S:St),(∀p,p∈pre→Sw F p q∧ ∀S K agi,(∀S,K S→agi S)→F p S K→F p S agi)→kS F (pre++q::post) S K→kS F (q::(pre++post)) S K
 | [],S,_,h=>h
 | p::pre,S,hp,h=>by
  obtain⟨hpq,hm⟩:=hp p List.mem_cons_self;have h:F p S fun S=>kS F (pre++q::post) S K:=h
  have h2:=hm _ _ _ (fun S1 h1=>front pre S1 (fun p adS=>hp p (List.mem_cons_of_mem _ adS)) h1) h;have h3:F p S fun S=>F q S fun S=>kS F (pre++post) S K:=h2
  exact hpq _ _ h3
theorem bR.drawn(hs:bR T n g0 w0 S g a w)(k:Nat):bR T n g0 w0 S g a {w with drawn:=k} :=
 hs.grow (g':=g) (w':= {w with drawn:=k}) {fz:=fun _ _=>rfl,os:=rfl,tape:=rfl,output:=rfl,size:=Nat.le_refl _,same:=fun _ _ _=>⟨rfl,rfl,rfl⟩,ge:=⟨⟨fun _=>Nat.le_refl _,fun _ _ _=>rfl,fun _ _ _ _ h=>h⟩,fun _ h=>⟨rfl,h⟩⟩,fresh:=hs.fresh} (fun _ h=>h)
theorem V9{α:Type}[DecidableEq α]{l:List α}{x:α}(h:x∈l):∃p q,l=p++x::q:=List.append_of_mem h
theorem J3(hT:bw P T){ops:Array Oper}(cq:gU n ops.toList=true){apps:List Nat}{Q:Exit→Act→World→Prop}{bef:List Nat}{ι:Type}{F:ι→St→(St→Prop)→Prop}{it:Nat→ι}(Cf:∀(i:Nat) o,ops[i]? =some o→ ∀S K,F (it i) S K→ ∃b,aQ T (fA P T) ops.toList apps b o S K)
  (AJ:∀(i:Nat) o,ops[i]? =some o→ ∀e,e∈o.after.toList→Region.binds .any e=true→e.on<i)
  (PQ:∀(i:Nat) o,ops[i]? =some o→ ∀j,Nat.testBit (bef.getD i 0) j=true→ ∃e,e∈o.after.toList∧Region.binds .any e=true∧(j=e.on∨Nat.testBit (bef.getD e.on 0) j=true))
  (Mi:∀i j,j<i→i<ops.size→Nat.testBit (bef.getD i 0) j=false→Sw F (it j) (it i)∧ ∀S K agi,(∀S,K S→agi S)→F (it j) S K→F (it j) S agi):
  ∀(fuel:Nat) (ez:Array Bool) (c:List Nat) (S:St) (g:G) (a:Act) (w:World) (K:St→Prop),ez.size=ops.size→c.Pairwise (· < ·)→(∀i,i∈c↔i<ops.size∧ez.getD i true=false)→c.length=fuel→
   (∀d,d<ops.size→ez.getD d true=true→ ∀j,Nat.testBit (bef.getD d 0) j=true→j<ops.size∧ez.getD j true=true)→
   bR T n g0 w0 S g a w→kS F (c.map it) S K→Rest T n g0 w0 K (Q .normal)→wpAny P .any ops Q fuel ez a w:=by
 intro fuel;induction fuel with
 | zero=>
  intro ez c S g a w K dZ Mj cV hlen dP hs h hn;have hc:c= []:=List.eq_nil_of_length_eq_zero hlen;subst hc;refine⟨?_,hn S g a w h hs⟩;unfold Region.ready;rw[List.filter_eq_nil_iff];intro i hi;have:¬(i<ops.size∧ez.getD i true=false):=fun hx=>by have:=(cV i).2 hx;simp at this
  simp only[List.mem_range]at hi;have hl:ez.getD i true=true:=by
   cases hx:ez.getD i true with
   | true=>rfl
   | false=>exact absurd ⟨hi,hx⟩ this
  simp[hl]
 | succ fuel ih=>
  intro ez c S g a w K dZ Mj cV hlen dP hs h hn;have Ss:∀i,i<ops.size→ez.getD i false=ez.getD i true:=fun i hi=>by
   rw[Array.getD_eq_getD_getElem?,Array.getD_eq_getD_getElem?,Array.getElem?_eq_getElem (by omega)];rfl
  refine⟨fun hr=>?_,fun i hi=>?_⟩
  ·
   exfalso;cases c with
   | nil=>simp at hlen
   | cons i0 r=>
    obtain⟨h1,h2⟩:=(cV i0).1 List.mem_cons_self;have ho:ops[i0]? =some ops[i0]:=Array.getElem?_eq_getElem h1;have:i0∈Region.ready .any ops ez:=by
     unfold Region.ready;rw[List.mem_filter];refine⟨by simpa using h1,?_⟩;rw[h2,ho];simp only[Bool.not_false,Bool.true_and,Option.map_some,Option.getD_some];rw[Array.all_eq_true'];intro e he;cases hb:Region.binds .any e with
     | false=>rfl
     | true=>
      have aN:=AJ i0 _ ho e (by simpa using he) hb;have TB:e.on∉i0::r:=fun hm=>by
       rw[List.mem_cons]at hm;rcases hm with hm | hm
       ·omega
       ·have:=(List.pairwise_cons.1 Mj).1 _ hm;omega
      have:ez.getD e.on true=true:=by
       cases hx:ez.getD e.on true with
       | true=>rfl
       | false=>exact absurd ((cV e.on).2 ⟨by omega,hx⟩) TB
      rw[Ss _ (by omega),this];rfl
    rw[hr]at this;simp at this
  ·have mW:=hi;unfold Region.ready at mW;rw[List.mem_filter]at mW;obtain⟨hir,PF⟩:=mW;have aN:i<ops.size:=by simpa using hir
   have ho:ops[i]? =some ops[i]:=Array.getElem?_eq_getElem aN;rw[ho]at PF;simp only[Option.map_some,Option.getD_some,Bool.and_eq_true]at PF;obtain⟨PF,hi3⟩:=PF;have hul:ez.getD i true=false:=by simpa using PF
   rw[Array.all_eq_true']at hi3;have hic:i∈c:=(cV i).2 ⟨aN,hul⟩;obtain⟨pre,post,aau⟩:=List.append_of_mem hic;subst aau;have fc:∀j,j∈pre→j<i:=fun j hj=>(List.pairwise_append.1 Mj).2.2 j hj i List.mem_cons_self
   have Su:∀j,Nat.testBit (bef.getD i 0) j=true→j<ops.size∧ez.getD j true=true:=fun j hj=>by
    obtain⟨e,h1,h2,h3⟩:=PQ i _ ho j hj;have adV:=AJ i _ ho e h1 h2;have hle:ez.getD e.on true=true:=by
     have:=hi3 e (by simpa using h1);rw[h2]at this;rw[←Ss e.on (by omega)];simpa using this
    rcases h3 with rfl | h3
    ·exact⟨by omega,hle⟩
    ·exact dP e.on (by omega) hle j h3
   have hsw:∀p,p∈pre.map it→Sw F p (it i)∧ ∀S K agi,(∀S,K S→agi S)→F p S K→F p S agi:=fun p hp=>by
    obtain⟨j,hj,rfl⟩:=List.mem_map.1 hp;refine Mi i j (fc j hj) aN ?_;cases hb:Nat.testBit (bef.getD i 0) j with
    | false=>rfl
    | true=>
     have h1:=(Su j hb).2;have h2:=((cV j).1 (List.mem_append_left _ hj)).2;rw[h1]at h2;cases h2
   rw[List.map_append,List.map_cons]at h;have h2:=front (pre.map it) S hsw h;have h3:F (it i) S fun S=>kS F (pre.map it++post.map it) S K:=h2
   obtain⟨frb,h3⟩:=Cf i _ ho _ _ h3;have zT:=pR cq (i:=i) (o:=ops[i]) (by rw[Array.getElem?_toList];exact ho);have hni:i∉pre∧i∉post:=by
    have rv:=Mj.imp (fun h=>Nat.ne_of_lt h);have:(pre++i::post).Nodup:=rv;rw[List.nodup_append]at this;refine⟨fun hm=>this.2.2 i hm i List.mem_cons_self rfl,(List.nodup_cons.1 this.2.1).1⟩
   have vd:∀k,(ez.setIfInBounds i true).getD k true=if i=k then true else ez.getD k true:=fun k=>by
    rw[Array.getD_eq_getD_getElem?,Array.getElem?_setIfInBounds,Array.getD_eq_getD_getElem?];split
    ·rename_i e;subst e;rw[if_pos (by omega)];rfl
    ·rfl
   obtain⟨k1,k2⟩:=pQ (Q:=Q) (next:=wpAny P .any ops Q fuel (ez.setIfInBounds i true)) hT hs zT h3 (fun agj g' agd w' hK gu=>by
    refine ih (ez.setIfInBounds i true) (pre++post) agj g' agd w' K (by simpa using dZ) ?_ ?_ ?_ ?_ gu (by rw[List.map_append];exact hK) hn
    ·exact Mj.sublist (List.Sublist.append_left (List.sublist_cons_self _ _) _)
    ·intro k;rw[vd];constructor
     ·intro hk;have hkc:k∈pre++i::post:=by
       rw[List.mem_append]at hk ⊢;exact hk.imp id (List.mem_cons_of_mem _)
      have dA:i≠k:=fun e=>by
       subst e;rw[List.mem_append]at hk;exact hk.elim hni.1 hni.2
      rw[if_neg dA];exact(cV k).1 hkc
     ·intro⟨ph,jJ⟩;by_cases dA:i=k
      ·rw[if_pos dA]at jJ;cases jJ
      ·rw[if_neg dA]at jJ;have:=(cV k).2 ⟨ph,jJ⟩;rw[List.mem_append,List.mem_cons]at this;rw[List.mem_append];rcases this with h | h | h
       ·exact .inl h
       ·exact absurd h.symm dA
       ·exact .inr h
    ·simp at hlen ⊢;omega
    ·intro d hd hl j hj;rw[vd]at hl;rw[vd];by_cases dA:i=d
     ·subst dA;obtain⟨h1,h2⟩:=Su j hj;exact⟨h1,by split<;>first | rfl | exact h2⟩
     ·rw[if_neg dA]at hl;obtain⟨h1,h2⟩:=dP d hd hl j hj;exact⟨h1,by split<;>first | rfl | exact h2⟩)
   unfold wpOp;rw[ho];simp only;split
   ·rename_i hw;exact .inl (k1 hw)
   ·rename_i hw;exact k2 (by simpa using hw)
end
section
variable {S agj:St} {K agi:St→Prop} {T:TE} {J:uF}
theorem ik{an:An}{o:Oper}(hA:∀t,t∈tmpsOf o.op.operands.toList→agj.get t=S.get t):fX T agj an o=fX T S an o:=by
 have ev:∀ty x,x∈o.op.operands.toList→bO T agj [] ty x=bO T S [] ty x:=fun ty x hx=>gg hx hA
 cases an with
 | no=>rfl
 | ld l=>
  unfold fX;cases hg:o.guard with
  | some _=>rfl
  | none=>
   cases ho:o.op<;>try rfl
   simp only;rw[ev 0 _ (by rw[ho];simp[Op.operands])]
 | ro=>
  unfold fX;cases hg:o.guard with
  | some _=>rfl
  | none=>
   cases ho:o.op<;>try rfl
   simp only;rw[ev 0 _ (by rw[ho];simp[Op.operands])]
 | st l=>
  unfold fX;cases hg:o.guard with
  | some _=>rfl
  | none=>
   cases ho:o.op<;>try rfl
   simp only;rw[ev 0 _ (by rw[ho];simp[Op.operands])]
 | pt=>
  unfold fX;cases hg:o.guard with
  | some _=>rfl
  | none=>
   cases ho:o.op with
   | move x=>cases x<;>first | rfl | (simp only;rw[hA _ (by rw[ho];simp[Op.operands,tmpsOf])])
   | nilCheck x=>cases x<;>first | rfl | (simp only;rw[hA _ (by rw[ho];simp[Op.operands,tmpsOf])])
   | fieldAddr t x f=>cases x<;>first | rfl | (simp only;rw[hA _ (by rw[ho];simp[Op.operands,tmpsOf])])
   | _=>rfl
 | S8 l=>
  unfold fX;cases hg:o.guard with
  | some _=>rfl
  | none=>
   cases ho:o.op with
   | load t x=>cases x<;>first | rfl | (simp only;rw[hA _ (by rw[ho];simp[Op.operands,tmpsOf])])
   | _=>rfl
 | ap l=>
  unfold fX;cases hg:o.guard with
  | some _=>rfl
  | none=>
   cases ho:o.op with
   | call c=>
    obtain⟨W9,args,tys⟩:=c;cases W9 with
    | builtin b=>
     cases b with
     | append=>
      simp only;split
      ·rename_i t r ha;rw[hA t (by
        have:Operand.tmp t∈args.toList:=by rw[ha];simp
        rw[ho];refine gz ?_;simp[Op.operands,Call.operands];simpa using this)]
      ·rfl
     | _=>rfl
    | _=>rfl
   | _=>rfl
 | Ln=>
  unfold fX;cases hg:o.guard with
  | some _=>rfl
  | none=>
   cases ho:o.op with
   | call c=>
    obtain⟨W9,args,tys⟩:=c;cases W9 with
    | builtin b=>
     cases b with
     | append=>
      simp only;split
      ·rename_i t x y z ha ht;rw[hA t (by
        have:Operand.tmp t∈args.toList:=by rw[ha];simp
        rw[ho];refine gz ?_;simp[Op.operands,Call.operands];simpa using this)]
      ·rfl
     | _=>rfl
    | _=>rfl
   | _=>rfl
theorem J4{v:AV}(h:v.Sb=true):∃sz rows,v= .own sz rows:=by
 cases v<;>first | exact⟨_,_,rfl⟩ | cases h
theorem Cg{R W:List Nat}{d:Option Nat}{t agh:TypeId}{s sz:Nat}{rows:List (List PV)}{vb:AV}(h:fV T S d t agh (.tmp s) (.own sz rows) vb K)(hs:s∈W)(hd:∀e,d=some e→e∈W):
  Still (fun S K=>fV T S d t agh (.tmp s) (.own sz rows) vb K) R W S K:=by
 unfold fV at h;cases Pd:Nat.beq t agh with
 | false=>rw[Pd]at h;exact h.elim
 | true=>
  rw[Pd]at h;simp only[Bool.not_true,cond_false]at h;cases oM:T.elem t with
  | none=>rw[oM]at h;exact h.elim
  | some e=>
   cases d with
   | none=>rw[oM]at h;exact h.elim
   | some d=>
    rw[oM]at h;simp only at h;cases hb:Nat.beq sz (T.size e)with
    | false=>rw[hb]at h;exact h.elim
    | true=>
     rw[hb]at h;simp only[cond_true]at h;obtain⟨hl,h⟩:=bP h;cases hv:vb.rows with
     | none=>rw[hv]at h;exact h.elim
     | some q=>
      obtain⟨db,xs⟩:=q;rw[hv]at h;simp only at h;cases iE:(Nat.beq db (T.size e)&&Nat.ble 1 (T.size e)&&Nat.ble 1 (T.bytes e))with
      | false=>rw[iE]at h;exact h.elim
      | true=>
       rw[iE]at h;simp only[cond_true]at h;obtain⟨hle,r,hr,h⟩:=h;obtain⟨mj,hk⟩:=bP h;refine⟨(Dl.nil.put s (.p (.sl (T.size e) rows))).put d (.own (T.size e) r),lU (lU eR hs) (hd d rfl),fun _=>rfl,rfl,by rw[Dl.dx,Dl.dx,Dl.dw];exact hk,fun agj hA agi b9=>?_⟩;rw[Dl.dx,Dl.dx,Dl.dw]at b9;unfold fV;simp only[Pd,Bool.not_true,cond_false,oM,hb,cond_true];show(bif agj.lock s then False else _);rw[hA.lock s hs,hl];simp only[cond_false,hv,iE,cond_true];refine⟨hle,r,hr,?_⟩;have mj:S.lock d=false:=mj;show(bif agj.lock d then False else _);rw[hA.lock d (hd d rfl),mj];exact b9
def rz(T:TE)(J:uF)(ops:List Oper)(apps:List Nat)(p:Oper×An)(S:St)(K:St→Prop):Prop:=fX T S p.2 p.1=true∧aQ T J ops apps false p.1 S K
theorem gI.an{F:St→(St→Prop)→Prop}{R W:List Nat}{c:BI}{fr:Bool}{d:Option Nat}{an:An}{o:Oper}(hR:∀t,t∈tmpsOf o.op.operands.toList→t∈R)(ha:fX T S an o=true)(h:gI F R W c fr d S K):
  gI (fun S K=>fX T S an o=true∧F S K) R W c fr d S K:=by
 obtain⟨δ,h1,h2,h3,h4⟩:=h;exact⟨δ,h1,h2,h3,fun agj hA hB agi hk=>⟨by rw[ik (fun t ht=>hA.get t (.inl (hR t ht)))];exact ha,h4 agj hA hB agi hk⟩⟩
theorem AK{ops:List Oper}{apps:List Nat}{p:Oper×An}(hc:zL p.2 p.1≠ .fN)(h:rz T J ops apps p S K):gI (rz T J ops apps p) (aM ops p.1) (lj p.2 p.1) (zL p.2 p.1) false p.1.dst S K:=by
 obtain⟨o,an⟩:=p;obtain⟨ha,h⟩:=h;have hR:∀t,t∈tmpsOf o.op.operands.toList→t∈aM ops o:=fun t ht=>cx ht
 have gen:an≠ .Ln→gI (rz T J ops apps (o,an)) (aM ops o) (lj an o) (zL an o) false o.dst S K:=fun dA=>by
  have e1:lj an o=aK o:=by cases an<;>first | rfl | exact absurd rfl dA
  have e2:zL an o=aY o:=by cases an<;>first | rfl | exact absurd rfl dA
  rw[e1,e2];have hc:aY o≠ .fN:=by rw[←e2];exact hc
  exact gI.an hR ha (fG hc h)
 cases an with
 | Ln=>
  have Zm:=ha;unfold fX at ha;cases hg:o.guard with
  | some _=>rw[hg]at ha;cases ha
  | none=>
   rw[hg]at ha;simp only at ha;split at ha<;>try (cases ha;done)
   rename_i args tys _ ho;split at ha<;>try (cases ha;done)
   rename_i s y t1 t2 fR Xf;obtain⟨sz,rows,hs⟩:=J4 ha;have HZ:∀S K,aQ T J ops apps false o S K=fV T S o.dst t1 t2 (.tmp s) (bO T S [] t1 (.tmp s)) (bO T S [] t1 y) K:=fun S K=>by
    unfold aQ;rw[hg,ho];simp only[fR,Xf]
   have dq:∀S:St,S.get s= .own sz rows→bO T S [] t1 (.tmp s)= .own sz rows:=fun S h=>by
    show under [] (S.get s)=_;rw[h];rfl
   have h:aQ T J ops apps false o S K:=h;rw[HZ,dq S hs]at h;have cV:Operand.tmp s∈o.op.operands.toList:=by
    have:Operand.tmp s∈args.toList:=by rw[fR];simp
    rw[ho];simp[Op.operands,Call.operands];simpa using this
   have Xg:y∈o.op.operands.toList:=by
    have:y∈args.toList:=by rw[fR];simp
    rw[ho];simp[Op.operands,Call.operands];simpa using this
   have j3:=Cg (R:=aM ops o) (W:=lj .Ln o) h (List.mem_append_right _ (gz cV)) (fun e he=>List.mem_append_left _ (bX e he));refine gI.an hR Zm ?_;refine Still.loc (c:= .quiet) (j3.congr (fun agj hA agi hk=>?_)) ⟨by simp,by simp⟩;show aQ T J ops apps false o agj agi;rw[HZ,dq agj (by rw[hA.get s (.inl (cx (gz cV)))];exact hs)];rw[gg Xg (fun t ht=>hA.get t (.inl (cx ht)))];exact hk
 | _=>exact gen (by simp)
theorem gh{d:Option Nat}{v:AV}(hk:∀S,K S→agi S)(h:bT S d v K):bT S d v agi:=by
 cases d with
 | none=>exact hk _ h
 | some d=>
  obtain⟨h1,h2⟩:=bP h;show(bif S.lock d then False else _);rw[h1];exact hk _ h2
theorem Wa{d:Nat}{v:AV}(hk:∀S,K S→agi S)(h:S.gG d v K):S.gG d v agi:=gh (d:=some d) hk h
theorem qK{d:Option Nat}{c:bq}{gs:Option (Nat×Bool)}{r:nC}(hk:∀S,K S→agi S)(h:gX S d c gs r K):gX S d c gs r agi:=by
 cases gs with
 | none=>
  cases r with
  | no=>exact h.elim
  | val v=>exact(a9 v fun v=>bT S d v agi).2 (gh hk ((a9 v fun v=>bT S d v K).1 h))
  | ka p v=>exact⟨h.1,(a9 v fun v=>bT S d v agi).2 (gh hk ((a9 v fun v=>bT S d v K).1 h.2))⟩
  | qZ p v=>obtain⟨z,h1,h2⟩:=h;exact⟨z,h1,gh hk h2⟩
  | Ae p v=>obtain⟨z,h1,h2⟩:=h;exact⟨z,h1,gh hk h2⟩
  | DE p v=>obtain⟨z,h1,h2⟩:=h;exact⟨z,h1,gh hk h2⟩
 | some sw=>
  obtain⟨s,w⟩:=sw;cases r with
  | no=>exact h.elim
  | val v=>exact(a9 v fun v=>bT (S.cA s) d (.fS s w v) agi).2 (gh hk ((a9 v fun v=>bT (S.cA s) d (.fS s w v) K).1 h))
  | ka p v=>exact⟨h.1,(a9 v fun v=>bT (S.cA s) d (.fS s w v) agi).2 (gh hk ((a9 v fun v=>bT (S.cA s) d (.fS s w v) K).1 h.2))⟩
  | qZ p v=>obtain⟨z,h1,h2⟩:=h;exact⟨z,h1,gh hk h2⟩
  | Ae p v=>obtain⟨z,h1,h2⟩:=h;exact⟨z,h1,gh hk h2⟩
  | DE p v=>obtain⟨z,h1,h2⟩:=h;exact⟨z,h1,gh hk h2⟩
theorem ye{d:Option Nat}{t agh:TypeId}{a:Operand}{va vb:AV}(h:fV T S d t agh a va vb K):
  ∃(e:TypeId) (dd:Nat) (db:Nat) (rows xs r:List (List PV)) (agj:St) (v:AV),Nat.beq t agh=true∧T.elem t=some e∧d=some dd∧vb.rows=some (db,xs)∧(Nat.beq db (T.size e)&&Nat.ble 1 (T.size e)&&Nat.ble 1 (T.bytes e))=true∧
   (rows.length+xs.length)*T.bytes e≤140737488355328∧rows++xs=r∧agj.lock dd=false∧K (agj.put dd v)∧
   ((∃s,v= .own (T.size e) r∧va= .own (T.size e) rows∧a= .tmp s∧S.lock s=false∧agj=S.put s (.p (.sl (T.size e) rows)))∨(v= .own (T.size e) r∧va= .own (T.size e) rows∧(∀s,a≠ .tmp s)∧agj=S)∨
    (∃s z y,v= .own (T.size e) r∧va= .cp (.slot s) z y∧S.get s= .own (T.size e) rows∧agj=(lL S s).put s (.p (.sl (T.size e) rows)))∨
    (∃l i z y ty cs,v= .own (T.size e) r∧va= .cp (.cell l i) z y∧S.bx l=some (.mix ty cs)∧fT cs i=some (.own (T.size e) rows)∧agj=(gq S).bK l (.mix ty (cG cs i [.p (.sl (T.size e) rows)])))∨
    ∃l i z m ty cs,v= .mo (T.size e) r∧va= .vw l i z m∧S.bx l=some (.mix ty cs)∧fT cs i=some (.mo (T.size e) rows)∧m=rows.length∧agj=(gq S).bK l (.mix ty (cG cs i [.dead]))):=by
 unfold fV at h;cases Pd:Nat.beq t agh with
 | false=>rw[Pd]at h;exact h.elim
 | true=>
  rw[Pd]at h;simp only[Bool.not_true,cond_false]at h;cases oM:T.elem t with
  | none=>rw[oM]at h;exact h.elim
  | some e=>
   cases d with
   | none=>rw[oM]at h;exact h.elim
   | some d=>
    rw[oM]at h;simp only at h;have go:∀(rows:List (List PV)) (agj:St),(match vb.rows with
      | some (db,xs)=>bif Nat.beq db (T.size e)&&Nat.ble 1 (T.size e)&&Nat.ble 1 (T.bytes e)then((rows.length+xs.length)*T.bytes e≤140737488355328∧ ∃r,rows++xs=r∧agj.gG d (.own (T.size e) r) K)else False
      | none=>False)→ ∃(db:Nat) (xs r:List (List PV)),vb.rows=some (db,xs)∧(Nat.beq db (T.size e)&&Nat.ble 1 (T.size e)&&Nat.ble 1 (T.bytes e))=true∧
       (rows.length+xs.length)*T.bytes e≤140737488355328∧rows++xs=r∧agj.lock d=false∧K (agj.put d (.own (T.size e) r)):=fun rows agj h=>by
     cases hv:vb.rows with
     | none=>rw[hv]at h;exact h.elim
     | some q=>
      obtain⟨db,xs⟩:=q;rw[hv]at h;simp only at h;cases iE:(Nat.beq db (T.size e)&&Nat.ble 1 (T.size e)&&Nat.ble 1 (T.bytes e))with
      | false=>rw[iE]at h;exact h.elim
      | true=>
       rw[iE]at h;simp only[cond_true]at h;obtain⟨hle,r,hr,h⟩:=h;obtain⟨mj,hk⟩:=bP h;exact⟨db,xs,r,rfl,iE,hle,hr,mj,hk⟩
    split at h
    ·rename_i sz rows;cases hb:Nat.beq sz (T.size e)with
     | false=>rw[hb]at h;exact h.elim
     | true=>
      rw[hb]at h;have:=beq_true.1 hb;subst this;simp only[cond_true]at h;cases a with
      | tmp s=>
       obtain⟨hl,h⟩:=bP h;obtain⟨db,xs,r,h1,h2,h3,h4,h5,h6⟩:=go _ _ h;exact⟨e,d,db,rows,xs,r,_,_,rfl,rfl,rfl,h1,h2,h3,h4,h5,h6,.inl ⟨s,rfl,rfl,rfl,hl,rfl⟩⟩
      | _=>
       obtain⟨db,xs,r,h1,h2,h3,h4,h5,h6⟩:=go _ _ h;exact⟨e,d,db,rows,xs,r,_,_,rfl,rfl,rfl,h1,h2,h3,h4,h5,h6,.inr (.inl ⟨rfl,rfl,by simp,rfl⟩)⟩
    ·rename_i s z y;split at h
     ·rename_i sz rows hg;cases hb:Nat.beq sz (T.size e)with
      | false=>rw[hb]at h;exact h.elim
      | true=>
       rw[hb]at h;have:=beq_true.1 hb;subst this;obtain⟨db,xs,r,h1,h2,h3,h4,h5,h6⟩:=go _ _ h;exact⟨e,d,db,rows,xs,r,_,_,rfl,rfl,rfl,h1,h2,h3,h4,h5,h6,.inr (.inr (.inl ⟨s,z,y,rfl,rfl,hg,rfl⟩))⟩
     ·exact h.elim
    ·rename_i l i z y;split at h
     ·rename_i ty cs Gd;split at h
      ·rename_i sz rows hg;cases hb:Nat.beq sz (T.size e)with
       | false=>rw[hb]at h;exact h.elim
       | true=>
        rw[hb]at h;have:=beq_true.1 hb;subst this;obtain⟨db,xs,r,h1,h2,h3,h4,h5,h6⟩:=go _ _ h;exact⟨e,d,db,rows,xs,r,_,_,rfl,rfl,rfl,h1,h2,h3,h4,h5,h6,.inr (.inr (.inr (.inl ⟨l,i,z,y,ty,cs,rfl,rfl,Gd,hg,rfl⟩)))⟩
      ·exact h.elim
     ·exact h.elim
    ·rename_i l i z m;split at h
     ·rename_i ty cs Gd;split at h
      ·rename_i sz rows hg;cases hb:Nat.beq sz (T.size e)with
       | false=>rw[hb]at h;exact h.elim
       | true=>
        rw[hb]at h;have:=beq_true.1 hb;subst this;simp only[cond_true]at h;obtain⟨hm,h⟩:=h;cases hv:vb.rows with
        | none=>rw[hv]at h;exact h.elim
        | some q=>
         obtain⟨db,xs⟩:=q;rw[hv]at h;simp only at h;cases iE:(Nat.beq db (T.size e)&&Nat.ble 1 (T.size e)&&Nat.ble 1 (T.bytes e))with
         | false=>rw[iE]at h;exact h.elim
         | true=>
          rw[iE]at h;simp only[cond_true]at h;obtain⟨hle,r,hr,h⟩:=h;obtain⟨mj,hk⟩:=bP h;exact⟨e,d,db,rows,xs,r,_,_,rfl,rfl,rfl,rfl,iE,hle,hr,mj,hk,.inr (.inr (.inr (.inr ⟨l,i,z,m,ty,cs,rfl,rfl,Gd,hg,hm,rfl⟩)))⟩
      ·exact h.elim
     ·exact h.elim
    ·exact h.elim
theorem AM{d:Option Nat}{t agh:TypeId}{a:Operand}{va vb:AV}(h:∃(e:TypeId) (dd:Nat) (db:Nat) (rows xs r:List (List PV)) (agj:St) (v:AV),Nat.beq t agh=true∧T.elem t=some e∧d=some dd∧vb.rows=some (db,xs)∧(Nat.beq db (T.size e)&&Nat.ble 1 (T.size e)&&Nat.ble 1 (T.bytes e))=true∧
   (rows.length+xs.length)*T.bytes e≤140737488355328∧rows++xs=r∧agj.lock dd=false∧K (agj.put dd v)∧
   ((∃s,v= .own (T.size e) r∧va= .own (T.size e) rows∧a= .tmp s∧S.lock s=false∧agj=S.put s (.p (.sl (T.size e) rows)))∨(v= .own (T.size e) r∧va= .own (T.size e) rows∧(∀s,a≠ .tmp s)∧agj=S)∨
    (∃s z y,v= .own (T.size e) r∧va= .cp (.slot s) z y∧S.get s= .own (T.size e) rows∧agj=(lL S s).put s (.p (.sl (T.size e) rows)))∨
    (∃l i z y ty cs,v= .own (T.size e) r∧va= .cp (.cell l i) z y∧S.bx l=some (.mix ty cs)∧fT cs i=some (.own (T.size e) rows)∧agj=(gq S).bK l (.mix ty (cG cs i [.p (.sl (T.size e) rows)])))∨
    ∃l i z m ty cs,v= .mo (T.size e) r∧va= .vw l i z m∧S.bx l=some (.mix ty cs)∧fT cs i=some (.mo (T.size e) rows)∧m=rows.length∧agj=(gq S).bK l (.mix ty (cG cs i [.dead])))):fV T S d t agh a va vb K:=by
 obtain⟨e,dd,db,rows,xs,r,agj,v,h1,h2,rfl,h4,h5,h6,h7,h8,h9,pV⟩:=h;unfold fV;have El:Nat.beq (T.size e) (T.size e)=true:=beq_true.2 rfl;have fin:v= .own (T.size e) r→(match vb.rows with
      | some (db,xs)=>bif Nat.beq db (T.size e)&&Nat.ble 1 (T.size e)&&Nat.ble 1 (T.bytes e)then((rows.length+xs.length)*T.bytes e≤140737488355328∧ ∃r,rows++xs=r∧agj.gG dd (.own (T.size e) r) K)else False
      | none=>False):=by
  rintro rfl;simp only[h4,h5,cond_true];refine⟨h6,r,h7,?_⟩;show(bif agj.lock dd then False else _);rw[h8];exact h9
 rcases pV with⟨s,hv,rfl,rfl,hl,rfl⟩ | ⟨hv,rfl,dA,rfl⟩ | ⟨s,z,y,hv,rfl,hg,rfl⟩ | ⟨l,i,z,y,ty,cs,hv,rfl,hb,hg,rfl⟩ | ⟨l,i,z,m,ty,cs,hv,rfl,hb,hg,hm,rfl⟩
 ·simp only[h1,Bool.not_true,cond_false,h2,El,cond_true];show(bif S.lock s then False else _);rw[hl];exact fin hv
 ·simp only[h1,Bool.not_true,cond_false,h2,El,cond_true];cases a with
  | tmp s=>exact absurd rfl (dA s)
  | _=>exact fin hv
 ·simp only[h1,Bool.not_true,cond_false,h2,hg,El,cond_true];exact fin hv
 ·simp only[h1,Bool.not_true,cond_false,h2,hb,hg,El,cond_true];exact fin hv
 ·subst hv;simp only[h1,Bool.not_true,cond_false,h2,hb,hg,El,cond_true,h4,h5];refine⟨hm,h6,r,h7,?_⟩;show(bif St.lock _ dd then False else _);rw[h8];exact h9
theorem Em{d:Option Nat}{t agh:TypeId}{a:Operand}{va vb:AV}(hk:∀S,K S→agi S)(h:fV T S d t agh a va vb K):fV T S d t agh a va vb agi:=by
 obtain⟨e,dd,db,rows,xs,r,agj,v,h1,h2,h3,h4,h5,h6,h7,h8,h9,pV⟩:=ye h;exact AM ⟨e,dd,db,rows,xs,r,agj,v,h1,h2,h3,h4,h5,h6,h7,h8,hk _ h9,pV⟩
theorem bI{ops:List Oper}{apps:List Nat}{fr:Bool}{o:Oper}(hk:∀S,K S→agi S)(h:aQ T J ops apps fr o S K):aQ T J ops apps fr o S agi:=by
 by_cases hc:aY o= .fN
 ·have no:∀ {c:BI},aY o=c→c≠ .fN→False:=fun e dA=>dA (e.symm.trans hc)
  unfold aQ at h ⊢;split at h
  ·rename_i hg;split at h
   case h_14 args tys ho=>
    split at h
    ·exact Em hk h
    ·exact h.elim
   case h_15=>
    split at h
    ·exact qK hk h
    ·exact qK hk h
   all_goals
    rename_i ho;unfold aY at hc;rw[ho]at hc;exact(nomatch hc)
  ·rename_i j w hg;split at h
   ·rename_i s hs;split at h
    ·rename_i c FD;split at h
     case h_6=>
      split at h
      ·exact qK hk h
      ·exact qK hk h
     all_goals
      rename_i ho;unfold aY at hc;rw[ho]at hc;exact(nomatch hc)
    ·exact h.elim
   ·exact h.elim
 ·exact Gv hc hk h
theorem Gw{ops:List Oper}{apps:List Nat}{p:Oper×An}(hk:∀S,K S→agi S)(h:rz T J ops apps p S K):rz T J ops apps p S agi:=⟨h.1,bI hk h.2⟩
end
section
variable {S agj:St} {K agi:St→Prop} {T:TE} {J:uF} {ops:List Oper} {apps:List Nat}
theorem ve{o:Oper}{t:TypeId}{x:Operand}(hg:o.guard=none)(ho:o.op= .load t x)(hu:∀l sz k off,bO T S [] 0 x≠ .bp l sz k off)(Zb:∀l i sz k off,bO T S [] 0 x≠ .el l i sz k off)(h:aQ T J ops apps false o S K):
  ∃δ:Dl,eQ δ (aM ops o) (aK o)∧(∀l,δ.pb l=none)∧K (δ.app S)∧ ∀agj,dy S agj (aM ops o) (aK o)→(∀l b,PL (bO T S [] 0 x)=some l→S.bx l=some b→agj.bx l=some b)→ ∀agi:St→Prop,agi (δ.app agj)→aQ T J ops apps false o agj agi:=by
 have hd:=bX (o:=o);have Cd:∀ {agj},dy S agj (aM ops o) (aK o)→bO T agj [] 0 x=bO T S [] 0 x:=fun hA=>gg (l:=o.op.operands.toList) (by rw[ho];simp[Op.operands]) (fun t ht=>hA.get t (.inl (cx ht)))
 have En:∀(S0:St) (K0:St→Prop),aQ T J ops apps false o S0 K0=(match bO T S0 [] 0 x with
   | .bp l sz k off=>oI T S0 [] none o.dst t l sz k off K0
   | .el l i sz k off=>oJ T S0 [] none o.dst t l i sz k off K0
   | v=>gp T apps S0 o.dst t v (fun v K=>v.force fun v=>bT S0 o.dst v K) K0):=fun S0 K0=>by
  unfold aQ;rw[hg,ho];rfl
 have TC:∀(S0:St) (K0:St→Prop),bO T S0 [] 0 x=bO T S [] 0 x→aQ T J ops apps false o S0 K0=gp T apps S0 o.dst t (bO T S [] 0 x) (fun v K=>v.force fun v=>bT S0 o.dst v K) K0:=fun S0 K0 e=>by
  rw[En,e];split
  ·rename_i l sz k off dq;exact absurd dq (hu _ _ _ _)
  ·rename_i l i sz k off dq;exact absurd dq (Zb _ _ _ _ _)
  ·rfl
 rw[TC S K rfl]at h;obtain⟨v,⟨h1,_,h2⟩ | ⟨h1,rr,h2⟩⟩:=nP (KK:=fun S v K=>v.force fun v=>bT S o.dst v K) h
 ·have h1:=(a9 v _).1 h1;obtain⟨δ,k1,k2,k3,k4,k5⟩:=eX (R:=aM ops o) h1 hd;refine⟨δ,k1,k2,k4,fun agj hA hB agi hk=>?_⟩;rw[TC agj agi (Cd hA)];exact h2 agj hB agi ((a9 v _).2 (k5 agj hA agi hk))
 ·have h1:=(a9 v _).1 h1;obtain⟨δ,k1,k2,k3,k4,k5⟩:=eX (R:=aM ops o) h1 hd;refine⟨δ.HW,⟨k1.get,k1.lock⟩,k2,by rw[Dl.lF];exact k4,fun agj hA hB agi hk=>?_⟩;rw[TC agj agi (Cd hA)];rw[Dl.lF]at hk;exact h2 agj hB agi ((a9 v _).2 (k5 agj hA (fun S=>agi ⟨S.get,S.bx,S.lock,true⟩) hk))
theorem zW{R W:List Nat}{t:TypeId}{a:AV}{l:Loc}{i sz m:Nat}(h:storeT T S t a l i sz m K):
  ∃δ:Dl,eQ δ R W∧(δ.lb=false∧ ∀m,δ.pb m≠none→m=l)∧K (δ.app S)∧ ∀agj,dy S agj R W→agj.bx=S.bx→ ∀agi:St→Prop,agi (δ.app agj)→storeT T agj t a l i sz m agi:=by
 unfold storeT at h;split at h
 ·rename_i age off;cases jC:(Loc.mI age l&&(Nat.beq off i&&T.ea t 1))with
  | false=>rw[jC]at h;exact h.elim
  | true=>
   rw[jC]at h;simp only[cond_true]at h;split at h
   ·rename_i ty cs hb;split at h
    ·rename_i db rows hi;cases ny:Nat.beq db sz with
     | false=>rw[ny]at h;exact h.elim
     | true=>
      rw[ny]at h;simp only[cond_true]at h;obtain⟨hm,jx,he,hk⟩:=h;refine⟨Dl.nil.bK l _,kF eR,⟨rfl,u7 (fun _=>rfl)⟩,by rw[Dl.dV,Dl.dw];exact hk,fun agj _ h1 agi b9=>?_⟩;rw[Dl.dV,Dl.dw]at b9;unfold storeT;simp only[jC,cond_true,h1,hb,hi,ny];exact⟨hm,jx,he,b9⟩
    ·exact h.elim
   ·exact h.elim
 ·exact h.elim
theorem sj{o:Oper}{t:TypeId}{x y:Operand}{l:Loc}{off:Nat}(hg:o.guard=none)(ho:o.op= .store t x y)(hu:bO T S [] 0 x= .ptr l off)(h:aQ T J ops apps false o S K):
  ∃δ:Dl,eQ δ (aM ops o) (aK o)∧(δ.lb=false∧ ∀m,δ.pb m≠none→m=l)∧K (δ.app S)∧ ∀agj,dy S agj (aM ops o) (aK o)→agj.bx=S.bx→(agj.aJ=S.aJ∨agj.aJ=false)→ ∀agi:St→Prop,agi (δ.app agj)→aQ T J ops apps false o agj agi:=by
 have hy:∀s,y= .tmp s→s∈aK o:=fun s e=>by unfold aK;rw[ho,e];simp
 have Cd:∀ {agj},dy S agj (aM ops o) (aK o)→bO T agj [] 0 x=bO T S [] 0 x:=fun hA=>gg (l:=o.op.operands.toList) (by rw[ho];simp[Op.operands]) (fun t ht=>hA.get t (.inl (cx ht)))
 have Tz:∀ {agj},dy S agj (aM ops o) (aK o)→bO T agj [] t y=bO T S [] t y:=fun hA=>gg (l:=o.op.operands.toList) (by rw[ho];simp[Op.operands]) (fun t ht=>hA.get t (.inl (cx ht)))
 have En:∀(S0:St) (K0:St→Prop),bO T S0 [] 0 x= .ptr l off→aQ T J ops apps false o S0 K0=(match bO T S0 [] t y with
   | .vw l2 i sz m=>storeT T S0 t (.ptr l off) l2 i sz m K0
   | u=>gO T S0 t (.ptr l off) y u K0):=fun S0 K0 e=>by
  unfold aQ;rw[hg,ho];simp only;rw[e];rfl
 rw[En S K hu]at h;split at h
 ·rename_i l2 i sz m dq;have mj:l2=l:=by
   unfold storeT at h;simp only at h;cases hb:(Loc.mI l l2&&(Nat.beq off i&&T.ea t 1))with
   | false=>rw[hb]at h;exact h.elim
   | true=>
    rw[Bool.and_eq_true]at hb;exact(Loc.fJ.1 hb.1).symm
  subst mj;obtain⟨δ,k1,k2,k3,k4⟩:=zW (R:=aM ops o) (W:=aK o) h;refine⟨δ,k1,k2,k3,fun agj hA h1 h2 agi hk=>?_⟩;rw[En agj agi (by rw[Cd hA];exact hu),Tz hA,dq];exact k4 agj hA h1 agi hk
 ·rename_i Zc;have fE:S.aJ=false:=by
   cases hl:S.aJ with
   | false=>rfl
   | true=>
    unfold gO at h;rw[hl]at h;exact h.elim
  obtain⟨δ,k1,k2,k3,k4⟩:=we (R:=aM ops o) h hy;refine⟨δ,k1,k2,k3,fun agj hA h1 h2 agi hk=>?_⟩;rw[En agj agi (by rw[Cd hA];exact hu),Tz hA];split
  ·rename_i l2 i sz m dq;exact(Zc _ _ _ _ dq).elim
  ·exact k4 agj hA h1 (by rcases h2 with h2 | h2;exact h2;rw[h2,fE]) agi hk
theorem nf{δ:Dl}{R W agB agC:List Nat}(hw:eQ δ R W)(d1:gQ W agB=true)(d2:gQ W agC=true)(d3:gQ R agC=true):dy S (δ.app S) agB agC:=⟨fun t ht=>nQ (by
  rcases Option.eq_none_or_eq_some (δ.pg t)with e | ⟨v,e⟩
  ·exact e
  ·have h:=hw.get t (by rw[e];simp);rcases ht with ht | ht
   ·exact(bQ d1 h ht).elim
   ·exact(bQ d2 h ht).elim),fun t ht=>by
  show(δ.lk t||S.lock t)=S.lock t;cases D4:δ.lk t with
  | false=>rfl
  | true=>exact(bQ d3 (hw.lock t D4) ht).elim⟩
theorem dy.symm{R W:List Nat}(h:dy S agj R W):dy agj S R W:=⟨fun t ht=>(h.get t ht).symm,fun t ht=>(h.lock t ht).symm⟩
theorem iG{a b:List Nat}(h:gQ a b=true):gQ b a=true:=by
 unfold gQ;rw[List.all_eq_true];intro t ht;cases hm:wQ a t with
 | false=>rfl
 | true=>exact(bQ h (yc.1 hm) ht).elim
theorem H0{o1 o2:Oper}{t1 t2:TypeId}{x1 x2 y2:Operand}{l2:Loc}{Gx:Nat}(g1:o1.guard=none)(p1:o1.op= .load t1 x1)(u1:∀l sz k off,bO T S [] 0 x1≠ .bp l sz k off)(adX:∀l i sz k off,bO T S [] 0 x1≠ .el l i sz k off)(dA:∀l,PL (bO T S [] 0 x1)=some l→l≠l2)
  (g2:o2.guard=none) (p2:o2.op= .store t2 x2 y2) (u2:bO T S [] 0 x2= .ptr l2 Gx) (d12:gQ (aM ops o1) (aK o2)=true) (d21:gQ (aK o1) (aM ops o2)=true) (FG:gQ (aK o1) (aK o2)=true)
  (h:aQ T J ops apps false o1 S fun S1=>aQ T J ops apps false o2 S1 K):aQ T J ops apps false o2 S fun S2=>aQ T J ops apps false o1 S2 K:=by
 obtain⟨iR,w1,b1,h,r1⟩:=ve g1 p1 u1 adX h;have a1:dy S (iR.app S) (aM ops o2) (aK o2):=nf w1 d21 FG d12;have adY:bO T (iR.app S) [] 0 x2= .ptr l2 Gx:=by
  rw[gg (S:=S) (l:=o2.op.operands.toList) (by rw[p2];simp[Op.operands]) (fun t ht=>a1.get t (.inl (cx ht)))];exact u2
 obtain⟨ij,w2,b2,h,r2⟩:=sj g2 p2 adY h;have e1:=kR (S:=S) b1;have a2:dy S (ij.app S) (aM ops o1) (aK o1):=nf w2 (iG d12) (iG FG) (iG d21);refine r2 S a1.symm e1.symm ?_ _ (r1 (ij.app S) a2 (fun l b hl hb=>?_) _ ?_)
 ·show S.aJ=(iR.lb||S.aJ)∨S.aJ=false;cases S.aJ with
  | false=>exact .inr rfl
  | true=>left;simp
 ·rw[nc]
  ·exact hb
  ·rcases Option.eq_none_or_eq_some (ij.pb l)with e | ⟨v,e⟩
   ·exact e
   ·exact absurd (b2.2 l (by rw[e];simp)) (dA l hl)
 ·rw[yd]
  ·exact h
  ·intro t;rcases Option.eq_none_or_eq_some (iR.pg t)with e | ⟨v,e⟩
   ·exact .inl e
   ·right;rcases Option.eq_none_or_eq_some (ij.pg t)with e2 | ⟨v2,e2⟩
    ·exact e2
    ·exact(bQ FG (w1.get t (by rw[e];simp)) (w2.get t (by rw[e2];simp))).elim
  ·intro l;exact .inl (b1 l)
theorem PR{o:Oper}(ha:fX T S .pt o=true)(h:aQ T J ops apps false o S K):
  ∃(t:Nat) (l:Loc) (off:Nat),(t∈tmpsOf o.op.operands.toList∧ ∀q,q∈tmpsOf o.op.operands.toList→q=t)∧(∃age sY,S.get t= .ptr age sY)∧bT S o.dst (.ptr l off) K∧ ∀(agj:St) (agi:St→Prop),agj.get t=S.get t→bT agj o.dst (.ptr l off) agi→aQ T J ops apps false o agj agi:=by
 have hrd:∀t,Operand.tmp t∈o.op.operands.toList→t∈aM ops o:=fun t ht=>cx (gz ht)
 unfold fX at ha;cases hg:o.guard with
 | some _=>rw[hg]at ha;simp at ha
 | none=>
  rw[hg]at ha;simp only at ha;have En:∀ {agj:St} {agi:St→Prop},aQ T J ops apps false o agj agi=(match o.op with
   | .move x=>oH apps agj o.dst x (bO T agj [] o.type x) agi
   | .nilCheck _=>(match g9 T (bO T agj []) o with | some r=>gX agj o.dst [] none r agi | none=>gX agj o.dst [] none (bn T agj [] o) agi)
   | .fieldAddr _ _ _=>(match g9 T (bO T agj []) o with | some r=>gX agj o.dst [] none r agi | none=>gX agj o.dst [] none (bn T agj [] o) agi)
   | _=>aQ T J ops apps false o agj agi):=fun {agj agi} =>by
   cases ho:o.op<;>first | rfl | (unfold aQ;rw[hg,ho];done) | (unfold aQ;rw[hg,ho];rfl)
  split at ha
  ·rename_i t _ ho;split at ha
   ·rename_i l off hs;rw[En,ho]at h;have ev:∀agj:St,agj.get t=S.get t→bO T agj [] o.type (.tmp t)= .ptr l off:=fun agj e=>by
     show under [] (agj.get t)=_;rw[e,hs];rfl
    simp only at h;rw[ev S rfl]at h;refine⟨t,l,off,⟨by rw[ho];simp[Op.operands,tmpsOf],fun q hq=>by rw[ho]at hq;simpa [Op.operands,tmpsOf]using hq⟩,⟨_,_,hs⟩,h,fun agj agi e hk=>?_⟩;rw[En,ho];simp only;rw[ev agj e];exact hk
   ·cases ha
  ·rename_i t _ ho;split at ha
   ·rename_i l off hs;rw[En,ho]at h;have ev:∀agj:St,agj.get t=S.get t→bn T agj [] o= .val (.ptr l off):=fun agj e=>by
     unfold bn;rw[ho];show lD (under [] (agj.get t))=_;rw[e,hs];rfl
    have nv:∀agj:St,g9 T (bO T agj []) o=none:=fun agj=>by unfold g9;rw[ho]
    simp only[nv]at h;rw[ev S rfl]at h;refine⟨t,l,off,⟨by rw[ho];simp[Op.operands,tmpsOf],fun q hq=>by rw[ho]at hq;simpa [Op.operands,tmpsOf]using hq⟩,⟨_,_,hs⟩,h,fun agj agi e hk=>?_⟩;rw[En,ho];simp only[nv];rw[ev agj e];exact hk
   ·cases ha
  ·rename_i ty t f _ ho;split at ha
   ·rename_i l off hs;rw[En,ho]at h;have nv:∀agj:St,agj.get t=S.get t→g9 T (bO T agj []) o=none:=fun agj e=>by
     unfold g9;rw[ho];show(match under [] (agj.get t)with
      | .el l j sz k off=>(match T.field ty f with
       | some (fo,_)=>some (nC.val (.el l j sz k (off+fo)))
       | none=>none)
      | _=>none)=none
     rw[e,hs];rfl
    simp only[nv S rfl]at h;have ev:∀agj:St,agj.get t=S.get t→bn T agj [] o=gw T ty (.ptr l off) f:=fun agj e=>by
     unfold bn;rw[ho];show gw T ty (under [] (agj.get t)) f=_;rw[e,hs];rfl
    rw[ev S rfl]at h;unfold gw at h;split at h
    ·rename_i o1 ft l1 Xh hf he;cases he;refine⟨t,l,off+o1,⟨by rw[ho];simp[Op.operands,tmpsOf],fun q hq=>by rw[ho]at hq;simpa [Op.operands,tmpsOf]using hq⟩,⟨_,_,hs⟩,h,fun agj agi e hk=>?_⟩;rw[En,ho];simp only[nv agj e];rw[ev agj e];unfold gw;simp only[hf];exact hk
    ·rename_i he;cases he
    ·rename_i he;cases he
    ·exact h.elim
   ·cases ha
  ·cases ha
theorem put_comm{d e:Nat}{u v:AV}(h:d≠e):(S.put d u).put e v=(S.put e v).put d u:=by
 refine St.ext' (fun t=>?_) (fun _=>rfl) (fun _=>rfl) rfl;show(bif Nat.beq e t then v else(bif Nat.beq d t then u else S.get t))=(bif Nat.beq d t then u else(bif Nat.beq e t then v else S.get t));cases h1:Nat.beq e t with
 | false=>rfl
 | true=>
  cases h2:Nat.beq d t with
  | false=>rfl
  | true=>exact absurd ((beq_true.1 h2).trans (beq_true.1 h1).symm) h
theorem J5{d s:Nat}{v:AV}(hv:uZ v=true):lL (S.put d v) s=(lL S s).put d v:=by
 refine St.ext' (fun t=>?_) (fun _=>rfl) (fun _=>rfl) rfl;show(match(bif Nat.beq d t then v else S.get t)with
  | .cp (.slot q) sz rows=>bif Nat.beq q s then .p (.sl sz rows)else .cp (.slot q) sz rows
  | .fS q w v=>bif Nat.beq q s then .dead else .fS q w v
  | v=>v)=bif Nat.beq d t then v else _
 cases Nat.beq d t with
 | true=>cases v<;>first | rfl | cases hv
 | false=>rfl
theorem AN{d:Nat}{v:AV}(hv:uZ v=true):gq (S.put d v)=(gq S).put d v:=by
 refine St.ext' (fun t=>?_) (fun _=>rfl) (fun _=>rfl) rfl;show(match(bif Nat.beq d t then v else S.get t)with
  | .cp (.cell _ _) sz rows=> .p (.sl sz rows)
  | .vw _ _ _ _=> .dead
  | .el _ _ _ _ _=> .dead
  | .fS s w v=>(match eu (.fS s w v)with | some _=> .dead | none=> .fS s w v)
  | v=>v)=bif Nat.beq d t then v else _
 cases Nat.beq d t with
 | true=>cases v<;>first | rfl | cases hv
 | false=>rfl
def Ch(T:TE)(J:uF)(ops:List Oper)(apps:List Nat)(o:Oper)(S:St)(K:St→Prop)(lo:Option Loc):Prop:=
 ∃(t:Nat) (u:AV),(t∈tmpsOf o.op.operands.toList∧ ∀q,q∈tmpsOf o.op.operands.toList→q=t)∧(∃age sY,S.get t= .ptr age sY)∧uZ u=true∧bT S o.dst u K∧
  ∀(agj:St) (agi:St→Prop),agj.get t=S.get t→(∀l,lo=some l→agj.bx l=S.bx l)→bT agj o.dst u agi→aQ T J ops apps false o agj agi
theorem vf{o:Oper}(ha:fX T S .pt o=true)(h:aQ T J ops apps false o S K):Ch T J ops apps o S K none:=by
 obtain⟨t,l,off,h1,h2,h3,h4⟩:=PR ha h;exact⟨t,.ptr l off,h1,h2,rfl,h3,fun agj agi e _ hk=>h4 agj agi e hk⟩
theorem nT{o:Oper}{l:Loc}(ha:fX T S (.S8 l) o=true)(h:aQ T J ops apps false o S K):Ch T J ops apps o S K (some l):=by
 unfold fX at ha;simp only at ha;split at ha
 ·rename_i t s hg ho;split at ha
  ·rename_i age off hs;rw[Bool.and_eq_true]at ha;have:=Loc.fJ.1 ha.1;subst this;have kC:T.jH t=false:=by simpa using ha.2
   have ev:∀agj:St,agj.get s=S.get s→bO T agj [] 0 (.tmp s)= .ptr l off:=fun agj e=>by
    show under [] (agj.get s)=_;rw[e,hs];rfl
   have En:∀(agj:St) (agi:St→Prop),agj.get s=S.get s→aQ T J ops apps false o agj agi=gp T apps agj o.dst t (.ptr l off) (fun v K=>v.force fun v=>bT agj o.dst v K) agi:=fun agj agi e=>by
    unfold aQ;rw[hg,ho];simp only;rw[ev agj e]
   rw[En S K rfl]at h;obtain⟨v,⟨h1,j3,h2⟩ | ⟨h1,rr,h2⟩⟩:=nP (KK:=fun S v K=>v.force fun v=>bT S o.dst v K) h
   ·refine⟨s,v,⟨by rw[ho];simp[Op.operands,tmpsOf],fun q hq=>by rw[ho]at hq;simpa [Op.operands,tmpsOf]using hq⟩,⟨_,_,hs⟩,j3,(a9 v _).1 h1,fun agj agi e hb hk=>?_⟩;rw[En agj agi e];exact h2 agj (fun l0 b e0 Gd=>by cases e0;rw[hb _ rfl];exact Gd) agi ((a9 v _).2 hk)
   ·rw[kC]at rr;cases rr
  ·cases ha
 ·cases ha
theorem Ci{o1 o2:Oper}{an:An}{lo:Option Loc}(ha:fX T S an o1=true)(LA:Ch T J ops apps o1 S (fun S1=>aQ T J ops apps false o2 S1 K) lo)(uC:∀l,lo=some l→ ∃l2,l2≠l∧fX T S (.ap l2) o2=true)(HZ:px o2=true)(d12:gQ (aM ops o1) (aK o2)=true)(d21:gQ (aK o1) (aM ops o2)=true)(FG:gQ (aK o1) (aK o2)=true)
  :aQ T J ops apps false o2 S fun S2=>fX T S2 an o1=true∧aQ T J ops apps false o1 S2 K:=by
 obtain⟨tr,u,⟨PS,PT⟩,⟨age,sY,Cj⟩,j3,h,r1⟩:=LA;unfold px at HZ;split at HZ
 ·rename_i args tys ho;have hg:o2.guard=none:=by cases Ss:o2.guard with | none=>rfl | some _=>rw[Ss]at HZ;cases HZ
  have En:∀ {agj:St} {agi:St→Prop},aQ T J ops apps false o2 agj agi=(match args.toList,tys.toList with
   | [a,b],[t,agh]=>fV T agj o2.dst t agh a (bO T agj [] t a) (bO T agj [] t b) agi
   | _,_=>False):=fun {agj agi} =>by unfold aQ;rw[hg,ho];rfl
  have cV:∀x,x∈args.toList→x∈o2.op.operands.toList:=fun x hx=>by
   rw[ho];simp[Op.operands,Call.operands];simpa using hx
  have done:∀(S2:St),S2.get tr=S.get tr→(∀l,lo=some l→S2.bx l=S.bx l)→bT S2 o1.dst u K→fX T S2 an o1=true∧aQ T J ops apps false o1 S2 K:=fun S2 e hb hk=>
   ⟨by rw[ik (S:=S) (fun t ht=>by rw[PT t ht];exact e)];exact ha,r1 S2 K e hb hk⟩
  have key:∀(S1:St),(o1.dst=none∧S1=S∨ ∃d,o1.dst=some d∧S.lock d=false∧S1=S.put d u)→aQ T J ops apps false o2 S1 K→
    aQ T J ops apps false o2 S fun S2=>fX T S2 an o1=true∧aQ T J ops apps false o1 S2 K:=by
   intro S1 oQ hs;rw[En]at hs ⊢;split at hs
   ·rename_i a b t agh fR Xf;have vX:∀x,x∈args.toList→bO T S1 [] t x=bO T S [] t x:=fun x hx=>by
     rcases oQ with⟨_,rfl⟩ | ⟨d,hd,_,rfl⟩
     ·rfl
     ·refine gg (cV x hx) (fun q hq=>?_);rw[St.di,if_neg];intro e;subst e;exact bQ d21 (bX d hd) (cx hq)
    have DI:=vX a (by rw[fR];simp);have tj:=vX b (by rw[fR];simp);rw[DI,tj]at hs;obtain⟨e,dd,db,rows,xs,r,S3,vr,h1,h2,h3,h4,h5,h6,h7,h8,h9,pV⟩:=ye hs;have Xe:dd∈aK o2:=bX dd h3;have htd:tr≠dd:=fun e=>by
     have:tr∈aM ops o1:=cx PS;exact bQ d12 this (by rw[e];exact Xe)
    have si:∀q,S1.lock q=S.lock q:=fun q=>by
     rcases oQ with⟨_,rfl⟩ | ⟨d,hd,_,rfl⟩<;>rfl
    have tj:S1.bx=S.bx:=by
     rcases oQ with⟨_,rfl⟩ | ⟨d,hd,_,rfl⟩<;>rfl
    have main:∀(S4:St),((∃s,vr= .own (T.size e) r∧bO T S [] t a= .own (T.size e) rows∧a= .tmp s∧S.lock s=false∧S4=S.put s (.p (.sl (T.size e) rows)))∨(vr= .own (T.size e) r∧bO T S [] t a= .own (T.size e) rows∧(∀s,a≠ .tmp s)∧S4=S)∨
      (∃s z y,vr= .own (T.size e) r∧bO T S [] t a= .cp (.slot s) z y∧S.get s= .own (T.size e) rows∧S4=(lL S s).put s (.p (.sl (T.size e) rows)))∨
      (∃l i z y ty cs,vr= .own (T.size e) r∧bO T S [] t a= .cp (.cell l i) z y∧S.bx l=some (.mix ty cs)∧fT cs i=some (.own (T.size e) rows)∧S4=(gq S).bK l (.mix ty (cG cs i [.p (.sl (T.size e) rows)])))∨
      ∃l i z m ty cs,vr= .mo (T.size e) r∧bO T S [] t a= .vw l i z m∧S.bx l=some (.mix ty cs)∧fT cs i=some (.mo (T.size e) rows)∧m=rows.length∧S4=(gq S).bK l (.mix ty (cG cs i [.dead])))→S4.lock dd=false→
      S4.get tr=S.get tr→(∀l,lo=some l→S4.bx l=S.bx l)→(∀d,o1.dst=some d→S.lock d=false→S4.lock d=false)→(o1.dst=none→S3=S4)→(∀d,o1.dst=some d→S1=S.put d u→S3=S4.put d u)→
      fV T S o2.dst t agh a (bO T S [] t a) (bO T S [] t b) fun S2=>fX T S2 an o1=true∧aQ T J ops apps false o1 S2 K:=by
     intro S4 k1 k2 k3 k3b k4 k5 k6;refine AM ⟨e,dd,db,rows,xs,r,S4,vr,h1,h2,h3,h4,h5,h6,h7,k2,done _ ?_ k3b ?_,k1⟩
     ·rw[St.di,if_neg (fun e=>htd e.symm)];exact k3
     ·rcases oQ with⟨hd,rfl⟩ | ⟨d,hd,hl,rfl⟩
      ·rw[hd];rw[k5 hd]at h9;exact h9
      ·rw[hd];show(bif S4.lock d then False else _);rw[k4 d hd hl];rw[k6 d hd rfl]at h9;have dA:dd≠d:=fun e=>bQ FG (bX d hd) (by rw[←e];exact Xe)
       rw[cond_false,put_comm dA];exact h9
    have hrS:∀s,a= .tmp s→ ∀z y,bO T S [] t a= .own z y→S.get s= .own z y:=fun s e z y h=>by
     rw[e]at h;have h:under [] (S.get s)= .own z y:=h;unfold under at h;split at h
     ·cases h
     ·exact h
    have Mk:∀d s,o1.dst=some d→a= .tmp s→d≠s:=fun d s hd e e2=>by
     subst e2;exact bQ d21 (bX d hd) (cx (gz (cV _ (by rw[fR,e];simp))))
    have TF:∀l2 i z y,bO T S [] t a= .cp (.cell l2 i) z y→lo=none:=fun l2 i z y hv=>by
     cases TG:lo with
     | none=>rfl
     | some l0=>
      obtain⟨l3,_,rj⟩:=uC l0 TG;exfalso;unfold fX at rj;rw[hg,ho]at rj;simp only[fR]at rj;cases a with
      | tmp s=>
       have hv:under [] (S.get s)= .cp (.cell l2 i) z y:=hv;simp only at rj;split at rj
       ·rename_i l4 _ _ _ J6;rw[J6]at hv;cases hv
       ·cases rj
      | _=>cases rj
    have aaw:∀l2 i z m,bO T S [] t a= .vw l2 i z m→ ∀l0,lo=some l0→l2≠l0:=fun l2 i z m hv l0 TG=>by
     obtain⟨l3,dA,rj⟩:=uC l0 TG;unfold fX at rj;rw[hg,ho]at rj;simp only[fR]at rj;cases a with
     | tmp s=>
      have hv:under [] (S.get s)= .vw l2 i z m:=hv;simp only at rj;split at rj
      ·rename_i l4 _ _ _ J6;rw[J6]at hv;cases hv;have:=Loc.fJ.1 rj;subst this;exact dA
      ·cases rj
     | _=>cases rj
    rcases pV with⟨s,v0,v1,v2,v3,v4⟩ | ⟨v0,v1,v2,v3⟩ | ⟨s,z,y,v0,v1,v2,v3⟩ | ⟨l2,i,z,y,ty,cs,v0,v1,v2,v3,v4⟩ | ⟨l2,i,z,m,ty,cs,v0,v1,v2,v3,v3b,v4⟩
    ·have FF:=hrS s v2 _ _ v1;refine main (S.put s (.p (.sl (T.size e) rows))) (.inl ⟨s,v0,v1,v2,by rw[←si];exact v3,rfl⟩) ?_ ?_ (fun _ _=>rfl) (fun d _ h=>h) (fun hd=>?_) (fun d hd he=>?_)
     ·have:S3.lock dd=S1.lock dd:=by rw[v4];rfl
      rw[this,si]at h8;exact h8
     ·rw[St.di,if_neg];intro e2;rw[←e2,FF]at Cj;cases Cj
     ·rcases oQ with⟨_,rfl⟩ | ⟨d,pC,_,_⟩
      ·exact v4
      ·rw[hd]at pC;cases pC
     ·rw[v4,he,put_comm (Mk d s hd v2)]
    ·refine main S (.inr (.inl ⟨v0,v1,v2,rfl⟩)) ?_ rfl (fun _ _=>rfl) (fun d _ h=>h) (fun hd=>?_) (fun d hd he=>by rw[v3,he])
     ·rw[v3,si]at h8;exact h8
     ·rcases oQ with⟨_,rfl⟩ | ⟨d,pC,_,_⟩
      ·exact v3
      ·rw[hd]at pC;cases pC
    ·have FF:S.get s= .own (T.size e) rows∧ ∀d,o1.dst=some d→S1=S.put d u→d≠s:=by
      rcases oQ with⟨pC,rfl⟩ | ⟨d,hd,_,rfl⟩
      ·exact⟨v2,fun d hd _=>by rw[pC]at hd;cases hd⟩
      ·rw[St.di]at v2;split at v2
       ·subst v2;cases j3
       ·rename_i dA;exact⟨v2,fun agA pC _=>by rw[hd]at pC;cases pC;exact dA⟩
     refine main ((lL S s).put s (.p (.sl (T.size e) rows))) (.inr (.inr (.inl ⟨s,z,y,v0,v1,FF.1,rfl⟩))) ?_ ?_ (fun _ _=>rfl) (fun d _ h=>?_) (fun hd=>?_) (fun d hd he=>?_)
     ·have e1:S3.lock dd=(bif Nat.beq s dd then false else S1.lock dd):=by rw[v3];rfl
      rw[e1,si]at h8;exact h8
     ·rw[St.di,if_neg]
      ·rw[Ar,Cj]
      ·intro e2;rw[←e2,FF.1]at Cj;cases Cj
     ·show(bif Nat.beq s d then false else S.lock d)=false;rw[h];cases Nat.beq s d<;>rfl
     ·rcases oQ with⟨_,rfl⟩ | ⟨d,pC,_,_⟩
      ·exact v3
      ·rw[hd]at pC;cases pC
     ·rw[v3,he,J5 j3,put_comm (FF.2 d hd he)]
    ·rw[tj]at v2;have Sv:=TF _ _ _ _ v1;refine main ((gq S).bK l2 (.mix ty (cG cs i [.p (.sl (T.size e) rows)]))) (.inr (.inr (.inr (.inl ⟨l2,i,z,y,ty,cs,v0,v1,v2,v3,rfl⟩)))) ?_ ?_ (fun l0 e0=>by rw[Sv]at e0;cases e0) (fun d _ h=>h) (fun hd=>?_) (fun d hd he=>?_)
     ·have e1:S3.lock dd=S1.lock dd:=by rw[v4];rfl
      rw[e1,si]at h8;exact h8
     ·show(gq S).get tr=S.get tr;rw[uP,Cj]
     ·rcases oQ with⟨_,rfl⟩ | ⟨d,pC,_,_⟩
      ·exact v4
      ·rw[hd]at pC;cases pC
     ·rw[v4,he,AN j3];exact St.ext' (fun _=>rfl) (fun _=>rfl) (fun _=>rfl) rfl
    ·rw[tj]at v2;refine main ((gq S).bK l2 (.mix ty (cG cs i [.dead]))) (.inr (.inr (.inr (.inr ⟨l2,i,z,m,ty,cs,v0,v1,v2,v3,v3b,rfl⟩)))) ?_ ?_ (fun l0 e0=>?_) (fun d _ h=>h) (fun hd=>?_) (fun d hd he=>?_)
     ·have e1:S3.lock dd=S1.lock dd:=by rw[v4];rfl
      rw[e1,si]at h8;exact h8
     ·show(gq S).get tr=S.get tr;rw[uP,Cj]
     ·rw[St.cM,if_neg (aaw _ _ _ _ v1 l0 e0)];rfl
     ·rcases oQ with⟨_,rfl⟩ | ⟨d,pC,_,_⟩
      ·exact v4
      ·rw[hd]at pC;cases pC
     ·rw[v4,he,AN j3];exact St.ext' (fun _=>rfl) (fun _=>rfl) (fun _=>rfl) rfl
   ·exact hs.elim
  cases hd:o1.dst with
  | none=>
   rw[hd]at h;exact key S (.inl ⟨hd,rfl⟩) h
  | some d=>
   rw[hd]at h;have h:S.gG d u (fun S1=>aQ T J ops apps false o2 S1 K):=h;obtain⟨hl,hk⟩:=bP h;exact key _ (.inr ⟨d,hd,hl,rfl⟩) hk
 ·cases HZ
theorem AO{o1 o2:Oper}{an:An}{lo:Option Loc}{G:St→Prop}(h:Ch T J ops apps o1 S G lo)(d21:gQ (aK o1) (aM ops o2)=true)(hG:∀S1,G S1→fX T S1 an o2=true):fX T S an o2=true:=by
 obtain⟨tr,u,_,_,_,h,_⟩:=h;cases hd:o1.dst with
 | none=>rw[hd]at h;exact hG _ h
 | some d=>
  rw[hd]at h;obtain⟨_,hk⟩:=bP (show S.gG d u G from h);have:=hG _ hk;rw[ik (S:=S) (fun t ht=>?_)]at this
  ·exact this
  ·rw[St.di,if_neg];intro e;subst e;exact bQ d21 (bX d hd) (cx ht)
theorem Zo{v:AV}(h:(match v with | .ptr _ _=>true | _=>false)=true):∃l o,v= .ptr l o:=by
 cases v<;>first | exact⟨_,_,rfl⟩ | cases h
theorem TH{o:Oper}{l:Loc}(h:fX T S (.ld l) o=true):o.guard=none∧ ∃t x off,o.op= .load t x∧bO T S [] 0 x= .ptr l off:=by
 unfold fX at h;simp only at h;split at h
 ·rename_i t x hg ho;split at h
  ·rename_i age off he;have:=Loc.fJ.1 h;subst this;exact⟨hg,t,x,off,ho,he⟩
  ·cases h
 ·cases h
theorem Ml{o:Oper}(h:fX T S .ro o=true):o.guard=none∧ ∃t x sz cs off,o.op= .load t x∧bO T S [] 0 x= .ro sz cs off:=by
 unfold fX at h;simp only at h;split at h
 ·rename_i t x hg ho;split at h
  ·rename_i sz cs off he;exact⟨hg,t,x,sz,cs,off,ho,he⟩
  ·cases h
 ·cases h
theorem Mm{o:Oper}{l:Loc}(h:fX T S (.st l) o=true):o.guard=none∧ ∃t x y off,o.op= .store t x y∧bO T S [] 0 x= .ptr l off:=by
 unfold fX at h;simp only at h;split at h
 ·rename_i t x y hg ho;split at h
  ·rename_i age off he;have:=Loc.fJ.1 h;subst this;exact⟨hg,t,x,y,off,ho,he⟩
  ·cases h
 ·cases h
theorem Mn{p q:Oper×An}(hf:HK ops p q=true)(n1:aY p.1≠ .call)(n2:aY q.1≠ .call):Sw (rz T J ops apps) p q:=by
 obtain⟨o1,a1⟩:=p;obtain⟨o2,a2⟩:=q;unfold HK at hf;simp only[Bool.and_eq_true,Bool.or_eq_true]at hf;obtain⟨⟨⟨d12,d21⟩,FG⟩,hf⟩:=hf;have wd:∀(an:An) (o:Oper) e,o.dst=some e→e∈lj an o:=fun an o e he=>by
  cases an with
  | Ln=>exact List.mem_append_left _ (bX e he)
  | _=>exact bX e he
 have Sx:∀ {an:An} {o:Oper},aY o≠ .call→zL an o≠ .call:=fun {an o} h=>by cases an<;>first | exact h | (intro e;cases e)
 rcases hf with hf | hf
 ·have l1:zL a1 o1≠ .fN:=fun e=>by rw[e]at hf;cases hf
  have l2:zL a2 o2≠ .fN:=fun e=>by
   rw[e]at hf;cases hc:zL a1 o1<;>rw[hc]at hf<;>cases hf
  intro S K h;exact Mg (F1:=rz T J ops apps (o1,a1)) (F2:=rz T J ops apps (o2,a2)) (fun _ _ h=>AK l1 h) (fun _ _ h=>AK l2 h) (wd a1 o1) (wd a2 o2) hf d12 d21 FG (fun e=>absurd e (Sx n1)) (fun e=>absurd e (Sx n2)) h
 ·intro S K h;obtain⟨DI,h⟩:=h;have agr:∀(S1:St),(∀t,t∈tmpsOf o2.op.operands.toList→S1.get t=S.get t)→fX T S1 a2 o2=true→fX T S a2 o2=true:=fun S1 h1 h2=>by rw[←ik h1];exact h2
  split at hf
  ·rename_i l age;have dA:l≠age:=Loc.lE.1 (by simpa using hf);obtain⟨g1,t1,x1,Xh,p1,u1⟩:=TH DI;obtain⟨iR,w1,b1,hk,r1⟩:=ve g1 p1 (by rw[u1];simp) (by rw[u1];simp) h;have aax:dy S (iR.app S) (aM ops o2) (aK o2):=nf w1 d21 FG d12;have Gy:=agr (iR.app S) (fun t ht=>aax.get t (.inl (cx ht))) hk.1;obtain⟨g2,t2,x2,y2,Gx,p2,u2⟩:=Mm Gy;have agl:aQ T J ops apps false o1 S fun S1=>aQ T J ops apps false o2 S1 fun S2=>fX T S2 (.ld l) o1=true→K S2:=bI (fun S1 h1=>bI (fun S2 h2 _=>h2) h1.2) h
   have PU:aQ T J ops apps false o1 S fun S1=>aQ T J ops apps false o2 S1 K:=bI (fun S1 h1=>h1.2) h
   refine⟨Gy,?_⟩;have hs:=H0 (l2:=age) g1 p1 (by rw[u1];simp) (by rw[u1];simp) (fun l0 e=>by rw[u1]at e;cases e;exact dA) g2 p2 u2 d12 d21 FG PU;obtain⟨ij,w2,b2,jJ,r2⟩:=sj g2 p2 u2 hs;have aay:dy S (ij.app S) (aM ops o1) (aK o1):=nf w2 (iG d12) (iG FG) (iG d21);exact r2 S ⟨fun _ _=>rfl,fun _ _=>rfl⟩ rfl (.inl rfl) _ ⟨by rw[ik (fun t ht=>aay.get t (.inl (cx ht)))];exact DI,jJ⟩
  ·rename_i age;obtain⟨g1,t1,x1,sz,cs,Xh,p1,u1⟩:=Ml DI;obtain⟨iR,w1,b1,hk,r1⟩:=ve g1 p1 (by rw[u1];simp) (by rw[u1];simp) h;have aax:dy S (iR.app S) (aM ops o2) (aK o2):=nf w1 d21 FG d12;have Gy:=agr (iR.app S) (fun t ht=>aax.get t (.inl (cx ht))) hk.1;obtain⟨g2,t2,x2,y2,Gx,p2,u2⟩:=Mm Gy;have PU:aQ T J ops apps false o1 S fun S1=>aQ T J ops apps false o2 S1 K:=bI (fun S1 h1=>h1.2) h
   refine⟨Gy,?_⟩;have hs:=H0 (l2:=age) g1 p1 (by rw[u1];simp) (by rw[u1];simp) (fun l0 e=>by rw[u1]at e;cases e) g2 p2 u2 d12 d21 FG PU;obtain⟨ij,w2,b2,jJ,r2⟩:=sj g2 p2 u2 hs;have aay:dy S (ij.app S) (aM ops o1) (aK o1):=nf w2 (iG d12) (iG FG) (iG d21);exact r2 S ⟨fun _ _=>rfl,fun _ _=>rfl⟩ rfl (.inl rfl) _ ⟨by rw[ik (fun t ht=>aay.get t (.inl (cx ht)))];exact DI,jJ⟩
  ·have PU:aQ T J ops apps false o1 S fun S1=>aQ T J ops apps false o2 S1 K:=bI (fun S1 h1=>h1.2) h
   exact⟨rfl,Ci DI (vf DI PU) (fun l e=>by cases e) hf d12 d21 FG⟩
  ·rename_i l2;have PU:aQ T J ops apps false o1 S fun S1=>aQ T J ops apps false o2 S1 K:=bI (fun S1 h1=>h1.2) h
   have Gy:fX T S (.ap l2) o2=true:=AO (vf DI h) d21 (fun S1 h1=>h1.1);exact⟨Gy,Ci DI (vf DI PU) (fun l e=>by cases e) hf d12 d21 FG⟩
  ·rename_i l1 l2;rw[Bool.and_eq_true]at hf;have dA:l1≠l2:=Loc.lE.1 (by simpa using hf.2);have PU:aQ T J ops apps false o1 S fun S1=>aQ T J ops apps false o2 S1 K:=bI (fun S1 h1=>h1.2) h
   have Gy:fX T S (.ap l2) o2=true:=AO (nT DI h) d21 (fun S1 h1=>h1.1);exact⟨Gy,Ci DI (nT DI PU) (fun l e=>by cases e;exact⟨l2,fun e=>dA e.symm,Gy⟩) hf.1 d12 d21 FG⟩
  ·cases hf
theorem vg:∀(l:List Oper) (an:List An) (i:Nat) (o:Oper),l[i]? =some o→ ∃b,(iZ l an)[i]? =some (o,b)
 | [],_,i,o,h=>by simp at h
 | p::r,[],0,o,h=>by simp at h;subst h;exact⟨.no,rfl⟩
 | p::r,b::bs,0,o,h=>by simp at h;subst h;exact⟨b,rfl⟩
 | p::r,[],i+1,o,h=>by
  obtain⟨b,hb⟩:=vg r [] i o (by simpa using h);exact⟨b,by simpa [iZ]using hb⟩
 | p::r,b::bs,i+1,o,h=>by
  obtain⟨b',hb⟩:=vg r bs i o (by simpa using h);exact⟨b',by simpa [iZ]using hb⟩
theorem nU:∀(l:List Oper) (an:List An),(iZ l an).length=l.length
 | [],_=>rfl
 | _::r,[]=>by simp[iZ,nU r []]
 | _::r,b::bs=>by simp[iZ,nU r bs]
theorem tH{os:List Oper}{L:List (Oper×An)}{bef:Nat}{q:Oper×An} :∀(l:List (Oper×An)) (j k:Nat) (p:Oper×An),mZ L os bef q l j=true→l[k]? =some p→Nat.testBit bef (j+k)=true∨HK os p q=true
 | [],_,k,p,_,h=>by simp at h
 | a::r,j,0,p,h,hp=>by
  simp only[List.getElem?_cons_zero,Option.some.injEq]at hp;subst hp;simp only[mZ,Bool.and_eq_true,Bool.or_eq_true]at h;exact h.1
 | a::r,j,k+1,p,h,hp=>by
  simp only[mZ,Bool.and_eq_true]at h;have:=tH r (j+1) k p h.2 (by simpa using hp);rw[show j+(k+1)=j+1+k by omega];exact this
theorem tI{os:List Oper}{L:List (Oper×An)}{bef:List Nat} :∀(l:List (Oper×An)) (i k:Nat) (o:Oper×An),py L os bef l i=true→l[k]? =some o→mZ L os (bef.getD (i+k) 0) o (fe L (i+k)) 0=true
 | [],_,k,o,_,h=>by simp at h
 | a::r,i,0,o,h,ho=>by
  simp only[List.getElem?_cons_zero,Option.some.injEq]at ho;subst ho;simp only[py,Bool.and_eq_true]at h;exact h.1
 | a::r,i,k+1,o,h,ho=>by
  simp only[py,Bool.and_eq_true]at h;have:=tI r (i+1) k o h.2 (by simpa using ho);rw[show i+(k+1)=i+1+k by omega];exact this
theorem wo{l:List Oper}{o:Oper}(h:wZ l=true)(ho:o∈l):aY o≠ .call:=by
 induction l with
 | nil=>simp at ho
 | cons a r ih=>
  unfold wZ at h;rw[Bool.and_eq_true]at h;rw[List.mem_cons]at ho;rcases ho with rfl | ho
  ·intro e;have h1:=h.1;rw[e]at h1;cases h1
  ·exact ih h.2 ho
theorem Mo{l:List (Oper×Bool)} :∀ {S:St},mK T J ops apps l S K↔kS (fun p S K=>aQ T J ops apps p.2 p.1 S K) l S K:=by
 induction l with
 | nil=>intro S;exact Iff.rfl
 | cons p r ih=>
  intro S;obtain⟨o,b⟩:=p;exact⟨fun h=>bI (fun S1 h1=>ih.1 h1) h,fun h=>bI (fun S1 h1=>ih.2 h1) h⟩
theorem Mp{l:List (Oper×An)} :∀ {S:St},nE T J ops apps l S K→kS (rz T J ops apps) l S K:=by
 induction l with
 | nil=>intro S h;exact h
 | cons p r ih=>
  intro S h;obtain⟨o,b⟩:=p;exact⟨h.1,bI (fun S1 h1=>ih h1) h.2⟩
end
section
variable {P:Program} {T:TE} {n:Nat} {g0 g g':G} {w0 w w':World} {S:St} {a:Act} {K:St→Prop}
structure Ord(ops:Array Oper)(bef:List Nat):Prop where
 aaz:∀(i:Nat) o,ops[i]? =some o→ ∀e,e∈o.after.toList→Region.binds .any e=true→e.on<i
 bit:∀(i:Nat) o,ops[i]? =some o→ ∀j,Nat.testBit (bef.getD i 0) j=true→ ∃e,e∈o.after.toList∧Region.binds .any e=true∧(j=e.on∨Nat.testBit (bef.getD e.on 0) j=true)
 lt:∀(i:Nat),i<ops.size→ ∀j,Nat.testBit (bef.getD i 0) j=true→j<i
theorem Ord.of{ops:Array Oper}(sk:mu ops.toList 0=true):Ord ops (fa ops.toList []):=by
 have hl:∀ {i:Nat} {o:Oper},ops[i]? =some o→ops.toList[i]? =some o:=fun h=>by rw[Array.getElem?_toList];exact h
 have AJ:∀(i:Nat) o,ops[i]? =some o→ ∀e,e∈o.after.toList→Region.binds .any e=true→e.on<i:=fun i o ho e he hb=>by
  have:=wi ops.toList 0 i o sk (hl ho) e he hb;omega
 have PQ:∀(i:Nat) o,ops[i]? =some o→ ∀j,Nat.testBit ((fa ops.toList []).getD i 0) j=true→ ∃e,e∈o.after.toList∧Region.binds .any e=true∧(j=e.on∨Nat.testBit ((fa ops.toList []).getD e.on 0) j=true):=fun i o ho j hj=>by
  have:=HY ops.toList [] i o (hl ho) (fun e he hb=>by have:=AJ i o ho e he hb;simpa using this) j (by simpa using hj);exact this
 refine⟨AJ,PQ,?_⟩;intro i;induction i using Nat.strongRecOn with
 | _ i ih=>
  intro hi j hj;have ho:ops[i]? =some ops[i]:=Array.getElem?_eq_getElem hi;obtain⟨e,h1,h2,h3⟩:=PQ i _ ho j hj;have:=AJ i _ ho e h1 h2;rcases h3 with rfl | h3
  ·exact this
  ·have:=ih e.on this (by omega) j h3;omega
theorem yf(hT:bw P T){ops:Array Oper}(cq:gU n ops.toList=true){Q:Exit→Act→World→Prop}(hs:bR T n g0 w0 S g a w){apps:List Nat}(Ck:Ord ops (fa ops.toList []))
  {ι:Type} [Inhabited ι] {F:ι→St→(St→Prop)→Prop} {L:List ι} (acA:L.length=ops.size) (Cf:∀(i:Nat) o,ops[i]? =some o→ ∀S K,F (L.getD i default) S K→ ∃b,aQ T (fA P T) ops.toList apps b o S K)
  (Mi:∀i j,j<i→i<ops.size→Nat.testBit ((fa ops.toList []).getD i 0) j=false→Sw F (L.getD j default) (L.getD i default)∧ ∀S K agi,(∀S,K S→agi S)→F (L.getD j default) S K→F (L.getD j default) S agi)
  (h:kS F L S (re ops.toList apps K)) (hn:Rest T n g0 w0 K (Q .normal)):wpAny P .any ops Q ops.size (Array.replicate ops.size false) a {w with drawn:=w.drawn+1} :=by
 have key:kS F ((List.range ops.size).map fun i=>L.getD i default) S (re ops.toList apps K):=by
  have e:((List.range ops.size).map fun i=>L.getD i default)=L:=by
   apply List.ext_getElem?;intro i;rw[List.getElem?_map];by_cases hi:i<ops.size
   ·rw[List.getElem?_range hi];have:L[i]? =some L[i]:=List.getElem?_eq_getElem (by omega);simp[List.getD_eq_getElem?_getD,this]
   ·have h1:L[i]? =none:=List.getElem?_eq_none (by omega);have h2:(List.range ops.size)[i]? =none:=List.getElem?_eq_none (by simp;omega);rw[h1,h2];rfl
  rw[e];exact h
 refine J3 hT cq (bef:=fa ops.toList []) (it:=fun i=>L.getD i default) Cf Ck.aaz Ck.bit Mi ops.size (Array.replicate ops.size false) (List.range ops.size) S g a _ _ (by simp) (List.pairwise_lt_range) ?_ (by simp) ?_ (hs.drawn _) key (fun agj g' agd w' hK gu=>sf gu hK hn)
 ·intro i;constructor
  ·intro hi;have hi:i<ops.size:=by simpa using hi
   exact⟨hi,by simp[Array.getD_eq_getD_getElem?,hi]⟩
  ·intro hi;simpa using hi.1
 ·intro d hd hl;simp[Array.getD_eq_getD_getElem?,hd]at hl
theorem Eo(hT:bw P T){ops:Array Oper}(cq:gU n ops.toList=true){Q:Exit→Act→World→Prop}(hs:bR T n g0 w0 S g a w)(h:jk T (fA P T) ops.toList true S K)(hn:Rest T n g0 w0 K (Q .normal)):
  wpAny P .any ops Q ops.size (Array.replicate ops.size false) a {w with drawn:=w.drawn+1} :=by
 have hl:∀ {i:Nat} {o:Oper},ops[i]? =some o→ops.toList[i]? =some o:=fun h=>by rw[Array.getElem?_toList];exact h
 unfold jk at h;simp only at h;split at h
 ·rename_i zT;obtain⟨_,h⟩:=h;unfold HJ at zT;rw[Bool.and_eq_true]at zT;obtain⟨sk,yg⟩:=zT;have Ck:=Ord.of sk
  let bef:=fa ops.toList []
  let L:=kA ops.toList (qx ops.toList bef ops.toList 0)
  have yh:∀(i:Nat) o,ops[i]? =some o→L[i]? =some (o,(aY o).Jy (gH bef i ops.toList 0)):=fun i o ho=>by
   have:=wm (ops:=ops.toList) (bef:=bef) ops.toList 0 i o (hl ho);rw[Nat.zero_add]at this;exact Ek _ _ i o _ (hl ho) this
  refine yf hT cq hs (apps:=eZ ops.toList) Ck (L:=L) (F:=fun p S K=>aQ T (fA P T) ops.toList (eZ ops.toList) p.2 p.1 S K) (by show(kA _ _).length=_;rw[lq];simp) ?_ ?_ (Mo.1 h) hn
  ·intro i o ho S K hk;have e:L.getD i default=(o,(aY o).Jy (gH bef i ops.toList 0)):=by rw[List.getD_eq_getElem?_getD,yh i o ho];rfl
   rw[e]at hk;exact⟨_,hk⟩
  ·intro i j Gp hi hb;have Sy:ops[i]? =some ops[i]:=Array.getElem?_eq_getElem hi;have Pf:ops[j]? =some ops[j]:=Array.getElem?_eq_getElem (by omega);have Xi:Nat.testBit (bef.getD j 0) i=false:=by
    cases hx:Nat.testBit (bef.getD j 0) i with
    | false=>rfl
    | true=>have:=Ck.lt j (by omega) i hx;omega
   have Sz:=wk ops.toList 0 i _ yg (hl Sy);rw[Nat.zero_add,gf]at Sz;have SA:=wj _ 0 j ops[j] Sz (by rw[List.getElem?_take_of_lt Gp];exact hl Pf);rw[Nat.zero_add]at SA;have dW:=SA.resolve_left (by rw[hb];simp);have ej:L.getD j default=(ops[j],(aY ops[j]).Jy (gH bef j ops.toList 0)):=by rw[List.getD_eq_getElem?_getD,yh j _ Pf];rfl
   have ei:L.getD i default=(ops[i],(aY ops[i]).Jy (gH bef i ops.toList 0)):=by rw[List.getD_eq_getElem?_getD,yh i _ Sy];rfl
   rw[ej,ei];refine⟨fun S K h=>swap dW (fun hc hq=>?_) (fun hc hq=>?_) h,fun S K agi hk h=>bI hk h⟩
   ·rw[hc];exact mO ops.toList 0 i ops[i] (hl Sy) (by omega) hq (by rw[Nat.zero_add];exact Xi) (by rw[Nat.zero_add];exact hb)
   ·rw[hc];exact mO ops.toList 0 j ops[j] (hl Pf) (by omega) hq (by rw[Nat.zero_add];exact hb) (by rw[Nat.zero_add];exact Xi)
 ·obtain⟨an,zT,h⟩:=h;unfold DQ at zT;simp only[Bool.and_eq_true]at zT;obtain⟨sk,yg,Sf⟩:=zT;have Ck:=Ord.of sk;have inst:Inhabited (Oper×An):=⟨(default,.no)⟩;have hlen:(iZ ops.toList an).length=ops.size:=by rw[nU];simp
  have yh:∀(i:Nat) o,ops[i]? =some o→ ∃b,(iZ ops.toList an)[i]? =some (o,b):=fun i o ho=>vg _ _ i o (hl ho)
  refine yf hT cq hs (apps:=eZ ops.toList) Ck (L:=iZ ops.toList an) (F:=rz T (fA P T) ops.toList (eZ ops.toList)) hlen ?_ ?_ (Mp h) hn
  ·intro i o ho S K hk;obtain⟨b,hb⟩:=yh i o ho;have e:(iZ ops.toList an).getD i default=(o,b):=by rw[List.getD_eq_getElem?_getD,hb];rfl
   rw[e]at hk;exact⟨false,hk.2⟩
  ·intro i j Gp hi hb;have Sy:ops[i]? =some ops[i]:=Array.getElem?_eq_getElem hi;have Pf:ops[j]? =some ops[j]:=Array.getElem?_eq_getElem (by omega);obtain⟨bi,Xj⟩:=yh i _ Sy;obtain⟨bj,SB⟩:=yh j _ Pf;have Sz:=tI (iZ ops.toList an) 0 i _ yg Xj;rw[Nat.zero_add,gf]at Sz;have SA:=tH _ 0 j _ Sz (by rw[List.getElem?_take_of_lt Gp];exact SB);rw[Nat.zero_add]at SA;have dW:=SA.resolve_left (by rw[hb];simp);have ej:(iZ ops.toList an).getD j default=(ops[j],bj):=by rw[List.getD_eq_getElem?_getD,SB];rfl
   have ei:(iZ ops.toList an).getD i default=(ops[i],bi):=by rw[List.getD_eq_getElem?_getD,Xj];rfl
   rw[ej,ei];exact⟨Mn dW (wo Sf (by simp)) (wo Sf (by simp)),fun S K agi hk h=>Gw hk h⟩
theorem Gz(hT:bw P T)(o7:P.follows .mixedOrders=true){ops:Array Oper}(cq:gU n ops.toList=true){id:Nat}{Q:Exit→Act→World→Prop}(hs:bR T n g0 w0 S g a w)(h:jk T (fA P T) ops.toList true S K)(hn:Rest T n g0 w0 K (Q .normal)):
  (Code.region id ops true).wp P Q a w:=wp_region_any o7 (Eo hT cq hs h hn)
end
section
variable {P:Program} {T:TE} {n:Nat} {g0 g g':G} {w0 w w':World} {S:St} {a:Act} {next:Act→World→Prop} {K:St→Prop} {X:BK→Prop}
def TJ:Ex→Exit
 | .normal=> .normal
 | .exit id=> .exit id
 | .ret=> .ret
abbrev Xk(T:TE)(n:Nat)(g0:G)(w0:World)(AQ:Ex→St→Prop)(Q:Exit→Act→World→Prop):Prop:=∀e S g a w,AQ e S→bR T n g0 w0 S g a w→Q (TJ e) a w
theorem least{p:Nat→Prop}(h:∃n,p n):∃n,p n∧ ∀m,p m→n≤m:=by
 obtain⟨n,hn⟩:=h;induction n using Nat.strongRecOn with
 | _ n ih=>
  by_cases hx:∃m,m<n∧p m
  ·obtain⟨m,h1,h2⟩:=hx;exact ih m h1 h2
  ·exact⟨n,hn,fun m hm=>by
    rcases Nat.lt_or_ge m n with h | h
    ·exact absurd ⟨m,h,hm⟩ hx
    ·exact h⟩
theorem J7{c:Code}{Q:Exit→Act→World→Prop}{I:Nat→Act→World→Prop}(h0:∃k,I k a w)(h:∀k a w,I k a w→c.wp P (Exit.then (fun a w=>∃m,m<k∧I m a w) Q) a w):(Code.loop c).wp P Q a w:=by
 classical
 let μ:Act→World→Nat:=fun a w=>if h:∃k,I k a w then(least h).choose else 0
 have Xl:∀a w (h:∃k,I k a w),I (μ a w) a w∧ ∀m,I m a w→μ a w≤m:=fun a w h=>by
  show I (if h:∃k,I k a w then(least h).choose else 0) a w∧ ∀m,I m a w→(if h:∃k,I k a w then(least h).choose else 0)≤m
  rw[dif_pos h];exact(least h).choose_spec
 refine wp_loop (fun a w=>∃k,I k a w) μ h0 (fun a w hI=>?_);refine Code.wp_mono (fun e agd w' hq=>?_) (h (μ a w) a w (Xl a w hI).1);cases e with
 | normal=>
  obtain⟨m,hm,Mq⟩:=hq;exact⟨⟨m,Mq⟩,Nat.lt_of_le_of_lt ((Xl agd w' ⟨m,Mq⟩).2 m Mq) hm⟩
 | _=>exact hq
theorem J8(hT:bw P T)(o7:P.follows .mixedOrders=true)(h0:∀b k,g0.K b≠ .box (.own k)):∀(c:Code),codeOk n c=true→ ∀ {S:St} {g:G} {a:Act} {w:World} {AQ:Ex→St→Prop} {Q:Exit→Act→World→Prop},bR T n g0 w0 S g a w→oK T (fA P T) c S AQ→Xk T n g0 w0 AQ Q→c.wp P Q a w:=by
 intro c;induction c with
 | skip=>intro cq S g a w AQ Q hs h hq;exact wp_skip (hq .normal _ _ _ _ h hs)
 | region id ops draw=>
  intro cq S g a w AQ Q hs h hq;cases draw with
  | false=>exact B7 hT cq hs h (fun agj g' agd w' hK gu=>hq .normal _ _ _ _ hK gu)
  | true=>exact Gz hT o7 cq hs h (fun agj g' agd w' hK gu=>hq .normal _ _ _ _ hK gu)
 | seq x y Xm Xn=>
  intro cq S g a w AQ Q hs h hq;simp only[codeOk,Bool.and_eq_true]at cq;refine wp_seq (Xm cq.1 hs h (fun e agj g' agd w' hK gu=>?_));cases e with
  | normal=>exact Xn cq.2 gu hK hq
  | exit id=>exact hq (.exit id) _ _ _ _ hK gu
  | ret=>exact hq .ret _ _ _ _ hK gu
 | cond x p q ihp ihq=>
  intro cq S g a w AQ Q hs h hq;simp only[codeOk,Bool.and_eq_true]at cq;unfold oK at h;split at h
  ·rename_i t ht;have hv:=bN hT hs (c:= []) bq.eN 0 x;rw[ht]at hv;have hb:=cK.ja (aA.eg hv);exact wp_cond_split hb (fun ht=>ihp cq.1 hs (h.1 ht) hq) (fun ht=>ihq cq.2 hs (h.2 ht) hq)
  ·exact h.elim
 | block id x ih=>
  intro cq S g a w AQ Q hs h hq;refine wp_block (ih cq hs h (fun e agj g' agd w' hK gu=>?_));cases e with
  | normal=>exact hq .normal _ _ _ _ hK gu
  | exit qy=>
   show(if qy=id then Q .normal agd w' else Q (.exit qy) agd w');by_cases he:qy=id
   ·rw[if_pos he];have hK:(bif Nat.beq qy id then AQ .normal agj else AQ (.exit qy) agj):=hK;rw[beq_true.2 he]at hK;exact hq .normal _ _ _ _ hK gu
   ·rw[if_neg he];have hK:(bif Nat.beq qy id then AQ .normal agj else AQ (.exit qy) agj):=hK;rw[beq_false.2 he]at hK;exact hq (.exit qy) _ _ _ _ hK gu
  | ret=>exact hq .ret _ _ _ _ hK gu
 | loop x ih=>
  intro cq S g a w AQ Q hs h hq;obtain⟨ts,ls,I,⟨k0,hI0⟩,hI⟩:=h;refine J7 (I:=fun k a w=>∃S g,I k S∧bR T n g0 w0 S g a w) ⟨k0,_,_,hI0,hs.bM h0 ts ls⟩ (fun k a w ⟨agj,g',hk,gu⟩=>?_);refine ih cq gu (hI k agj hk) (fun e S2 g2 a2 w2 hK kf=>?_);cases e with
  | normal=>
   obtain⟨m,hm,Mq⟩:=hK;exact⟨m,hm,_,_,Mq,kf.bM h0 ts ls⟩
  | exit id=>exact hq (.exit id) _ _ _ _ hK kf
  | ret=>exact hq .ret _ _ _ _ hK kf
 | scope x ih=>
  intro cq S g a w AQ Q hs h hq;refine wp_scope_straight (ih cq hs h (fun e agj g' agd w' hK gu=>?_));cases e with
  | normal=>exact hq .normal _ _ _ _ hK gu
  | exit id=>exact hq (.exit id) _ _ _ _ hK gu
  | ret=>exact hq .ret _ _ _ _ hK gu
 | label id=>intro cq S g a w AQ Q hs h hq;exact wp_label (hq .normal _ _ _ _ h hs)
 | exit id=>intro cq S g a w AQ Q hs h hq;exact wp_exit (hq (.exit id) _ _ _ _ h hs)
 | ret=>intro cq S g a w AQ Q hs h hq;exact wp_ret (hq .ret _ _ _ _ h hs)
 | _=>intro cq;cases cq
theorem GA{o:Oper}{t:TypeId}{x:Operand}(ho:o.op= .load t x){ad:Addr}(hx:a.eval x= .pointer (some ad)){y:Value}(h:(execOp a.eval o).run P w= .ok (.value y) w):(loadVar t ad).run P w= .ok y w:=by
 simp only[execOp,ho,hx,Instr.loadAt,Instr.sureAddr,Sem.run_bind,Sem.run_pure,Result.andThen_ok]at h;cases hr:(loadVar t ad).run P w with
 | ok z w2=>
  rw[hr]at h;simp only[Result.andThen_ok]at h;cases h;rfl
 | halt z w2=>rw[hr]at h;cases h
def yi(tmps:Array Value):ResultVar→Sem Value
 | .tmp t=>pure (tmps.getD t undef)
 | .cell a t=>do loadVar t (←asAddr (tmps.getD a undef))
theorem wq(hT:bw P T)(hs:bR T n g0 w0 S g a w){r:ResultVar}{v:AV}(h:m4 T S r=some v):∃x,(yi a.tmps r).run P w= .ok x w∧((∃t,mg g w a.tmps t v x)):=by
 cases r with
 | tmp t=>
  cases h;exact⟨_,rfl,t,hs.bH t⟩
 | cell s ty=>
  unfold m4 at h;simp only at h;split at h
  ·rename_i l off hp;have Pg:=hs.bH s;rw[hp]at Pg;obtain⟨hx,_⟩:=jm Pg
   let o:Oper:= {dst:=none,op:= .load ty (.tmp s),type:=0,pos:= "",after:= #[],guard:=none}
   have key:gp T [] S none ty (.ptr l off) (fun u _=>u=v) (fun _=>True):=by
    unfold gp;simp only;split at h
    ·rename_i Sc cs hb;rw[h]
    ·rename_i Sc cs hb;split at h
     ·cases h
     ·rename_i i hi;cases dJ:T.isAgg ty with
      | true=>
       rw[dJ]at h;simp only[cond_true]at h ⊢;revert h;cases Nat.ble _ _ with
       | false=>intro h;cases h
       | true=>
        simp only[cond_true];intro h;split at h
        ·cases h;rfl
        ·cases h
      | false=>
       rw[dJ]at h;simp only[cond_false]at h ⊢;split at h
       ·cases h
       ·rename_i u Ep hu;rw[hu];cases h;cases u<;>first | rfl | exact(Ep _ _ rfl).elim
       ·cases h
    ·cases h
   obtain⟨u,y,cn,h1 | ⟨_,_,_,_,_,_,rr,_⟩ | ⟨l2,Gx,sz2,m2,_,_,V7,Er,_⟩⟩:=BV (o:=o) (x:= .tmp s) hT hs rfl (show cU g w (.ptr l off) (a.eval (.tmp s))from Pg) key
   ·have hv:u=v:=h1.1;subst hv;refine⟨y,?_,0,.of h1.2⟩;have:=GA (o:=o) (x:= .tmp s) rfl (show a.eval (.tmp s)=_ from hx) cn;show(do loadVar ty (←asAddr (a.tmps.getD s undef))).run P w=_;have jz:a.tmps.getD s undef= .pointer (some ⟨g.B l,off,none⟩):=hx;rw[jz];simpa [asAddr]using this
   ·cases rr.1
   ·exfalso;have V7:v= .vw l2 Gx sz2 m2:=(show u=v from Er).symm.trans V7;have nv:∀w':AV,w'.lf≠ .vw l2 Gx sz2 m2:=fun w' e=>by cases w'<;>cases e
    subst V7;split at h
    ·rename_i Sc cs hb;exact absurd (na h) (by simp[dh])
    ·rename_i Sc cs hb;split at h
     ·cases h
     ·rename_i i hi;cases dJ:T.isAgg ty with
      | true=>
       rw[dJ]at h;simp only[cond_true]at h;revert h;cases Nat.ble _ _ with
       | false=>intro h;cases h
       | true=>
        simp only[cond_true];intro h;split at h<;>cases h
      | false=>
       rw[dJ]at h;simp only[cond_false]at h;split at h
       ·cases h
       ·rename_i w' _ _;exact nv w' (Option.some.inj h)
       ·cases h
    ·cases h
  ·cases h
def gi(w:World)(b:Nat):Nat:=match w.heap[b]? with | some (.cells xs _ _)=>xs.size | some (.map _ _)=>1 | _=>0
def G.wu(g:G)(w:World):G:=⟨fun b=>match g.K b with | .box (.own _)=>max (g.H b) (gi w b) | _=>g.H b,g.K,g.B,g.D⟩
theorem tJ:Ext g.H w (g.wu w).H w:=⟨fun b=>by
  show g.H b≤(match g.K b with | .box (.own _)=>max (g.H b) (gi w b) | _=>g.H b);split
  ·exact Nat.le_max_left _ _
  ·exact Nat.le_refl _,fun _ _ _=>rfl,fun _ _ _ _ h=>h⟩
theorem Cl:uG g w (g.wu w) w:=⟨tJ,fun l hl=>⟨rfl,hl⟩⟩
theorem qL(hf:eW g w):j8 (fun e=>∃k,e= .box (.own k)) g w (g.wu w) w where
 os:=rfl
 tape:=rfl
 output:=rfl
 size:=Nat.le_refl _
 same b hb hx:=⟨rfl,by
  show(match g.K b with | .box (.own _)=>max (g.H b) (gi w b) | _=>g.H b)=g.H b;split
  ·rename_i k hk;exact absurd ⟨k,hk⟩ hx
  ·rfl,rfl⟩
 ge:=Cl
 fresh b hb:=by
  obtain⟨h1,h2⟩:=hf b hb;refine⟨?_,h2⟩;show(match g.K b with | .box (.own _)=>max (g.H b) (gi w b) | _=>g.H b)=0;rw[h2];exact h1
 fz _ _:=rfl
theorem Mr{b k:Nat}(h:g.K b= .box (.own k)){xs:Array Value}{t:TypeId}{fr:Nat×Nat}(hb:w.heap[b]? =some (.cells xs t fr)):xs.size≤(g.wu w).H b:=by
 show xs.size≤(match g.K b with | .box (.own _)=>max (g.H b) (gi w b) | _=>g.H b);rw[h];simp only[gi,hb];exact Nat.le_max_right _ _
theorem Ms(hs:bR T n g0 w0 S g a w){v u:AV}{x:Value}(h:Lo T S v=some u)(hv:aA g w v x):aA (g.wu w) w u x:=by
 have plain:mn 4 v=some u→aA (g.wu w) w u x:=fun h=>(qC rfl 4 h hv.K6).ext Cl
 unfold Lo at h;split at h
 ·rename_i k off;obtain⟨rfl,hK⟩:=jm hv;split at h
  ·rename_i ty cs hb;cases h;obtain⟨_,hH,xs,t,hh,dZ,hC⟩:=hs.boxes _ _ hb;have dP:cs.length=T.size ty:=by have:=hC.1;simp at this;omega
   have:=aA.ro (g:=g.wu w) (w:=w) (sz:=T.size ty) (cs:=cs) (off:=off) (b:=g.B (.own k)) (o:=0) dP ⟨by rw[Nat.zero_add,dP,←dZ];exact Mr hK hh,fun j u hu=>by
    obtain⟨y,hy,hp⟩:=hC.at_ hu;rw[Nat.zero_add,bF hh,←Array.getElem?_toList];exact⟨y,hy,hp.ext tJ⟩⟩
   rw[Nat.zero_add]at this;exact this
  ·rename_i ty j o hb;cases hq:Nat.beq off 0 with
   | false=>rw[hq]at h;cases h
   | true=>
    rw[hq]at h;cases h;have:=beq_true.1 hq;subst this;obtain⟨_,hH,xs,t,hh,dZ,hl,hC⟩:=hs.boxes _ _ hb;have h0:0<xs.size:=by rw[←hl];simp
    have hx:xs[0]? =some (xs[0]'h0):=Array.getElem?_eq_getElem _;have hk:aA g w (.ptr (.ext j) o) xs[0]:=hC 0 _ _ rfl hx;exact .iX (Nat.lt_of_lt_of_le h0 (Mr hK hh)) (by rw[bF hh];exact hx) (hk.ext Cl)
  ·cases h
 ·exact plain h
theorem Es{t:Nat}{v u:AV}{x:Value}(hs:bR T n g0 w0 S g a w)(h:zM T S v=some u)(hv:mg g w a.tmps t v x):(∃sz rows,u= .own sz rows∧dG (g.wu w) w (.slot t) sz rows x)∨((∀sz rows,u≠ .own sz rows)∧aA (g.wu w) w u x):=by
 have ar:aA g w u x→(∃sz rows,u= .own sz rows∧dG (g.wu w) w (.slot t) sz rows x)∨((∀sz rows,u≠ .own sz rows)∧aA (g.wu w) w u x):=fun hA=>
  .inr ⟨fun sz rows e=>by subst e;exact hA.xK,hA.ext Cl⟩
 cases v with
 | own sz rows=>
  cases h;exact .inl ⟨sz,rows,rfl,dG.jq hv (qL hs.fresh) (fun⟨k,e⟩=>by cases e)⟩
 | cp q sz rows=>cases h;exact ar (.p hv.1)
 | p v=>cases h;exact ar hv
 | agg cs=>cases h;exact ar hv
 | ro sz cs o=>cases h;exact ar hv
 | gm=>cases h;exact ar hv
 | aP=>cases h;exact ar hv
 | fD=>cases h;exact ar hv
 | fI ag es=>cases h;exact ar hv
 | dF l=>
  cases l with
  | ext j=>cases h
  | own k=>
   simp only[zM]at h;split at h
   ·rename_i ag es hb;cases h;have hv:aA g w (.dF (.own k)) x:=hv;obtain⟨rfl,hK⟩:=pP hv;obtain⟨_,hH,xs,c,hh,hE⟩:=hs.boxes _ _ hb;refine .inr ⟨by simp,.fI ?_ hh (hE.ext tJ)⟩;show 0<(match g.K (g.B (.own k))with | .box (.own _)=>max (g.H (g.B (.own k))) (gi w (g.B (.own k))) | _=>g.H (g.B (.own k)));rw[hK];simp only[gi,hh];omega
   ·cases h
 | ptr l o=>
  cases l with
  | own k=>cases h
  | ext j=>cases h;exact ar hv
 | bs l sz m=>
  cases l with
  | ext j=>cases h
  | own k=>
   simp only[zM]at h;split at h
   ·rename_i db rows hb;revert h;cases Nat.beq db sz with
    | false=>intro h;cases h
    | true=>intro h;cases h;exact ar hv
   ·cases h
 | fn f p q=>
  simp only[zM]at h;split at h
  ·rename_i agw q' h1 h2;cases h;refine .inr ⟨by simp,?_⟩;have hv:aA g w (.fn f p q) x:=hv;have Ly:∀ {l age:List AV} {xs:Array Value},fj (Lo T S) l=some age→l.length=xs.size→(∀(j:Nat) u x,l[j]? =some u→xs[j]? =some x→aA g w u x)→
     age.length=xs.size∧ ∀(j:Nat) u x,age[j]? =some u→xs[j]? =some x→aA (g.wu w) w u x:=by
    intro l age xs h1 h2 h3;obtain⟨e1,e2⟩:=dr h1;refine⟨by omega,fun j u x hu hx=>?_⟩;have hj:j<l.length:=by have:=(List.getElem?_eq_some_iff.1 hu).1;omega
    have hl:l[j]? =some l[j]:=List.getElem?_eq_getElem hj;exact Ms hs (e2 j _ u hl hu) (h3 j _ x hl hx)
   cases hv with
   | fn k1 k2 k3 k4=>
    obtain⟨a1,a2⟩:=Ly h1 k1 k2;obtain⟨b1,b2⟩:=Ly h2 k3 k4;exact .fn a1 a2 b1 b2
  ·cases h
 | _=>cases h
theorem Et{α β:Type}{f:α→Sem β} :∀ {l:List α} {xs:List β},l.length=xs.length→(∀(j:Nat) r x,l[j]? =some r→xs[j]? =some x→(f r).run P w= .ok x w)→(l.mapM f).run P w= .ok xs w
 | [],[],_,_=>by simp[Sem.run_pure]
 | [],_::_,h,_=>by simp at h
 | _::_,[],h,_=>by simp at h
 | r::l,x::xs,h,hr=>by
  rw[List.mapM_cons,Sem.run_bind,hr 0 r x rfl rfl,Result.andThen_ok,Sem.run_bind,Et (by simpa using h) (fun j r x h1 h2=>hr (j+1) r x (by simpa using h1) (by simpa using h2))];simp only[Result.andThen_ok,Sem.run_pure]
theorem wv{fn:Func}{tmps:Array Value}{xs:List Value}(hl:fn.results.toList.length=xs.length)(hr:∀(j:Nat) r x,fn.results.toList[j]? =some r→xs[j]? =some x→(yi tmps r).run P w= .ok x w):
  (results fn tmps).run P w= .ok (if h:xs.toArray.size=1 then xs.toArray[0]else .tuple xs.toArray) w:=by
 have e:(fn.results.mapM (yi tmps)).run P w= .ok xs.toArray w:=by
  have e2:fn.results=fn.results.toList.toArray:=by simp
  rw[e2,List.mapM_toArray,map_eq_pure_bind,Sem.run_bind,Et hl hr,Result.andThen_ok,Sem.run_pure]
 have e3:results fn tmps=(do let vs ←fn.results.mapM (yi tmps);pure (if h:vs.size=1 then vs[0]else .tuple vs)):=by
  unfold results;congr 1
  try (congr 1;funext r;cases r<;>rfl)
 rw[e3,Sem.run_bind,e,Result.andThen_ok,Sem.run_pure]
theorem m8.of{v:AV}{x:Value}(h:aA g w v x):m8 g w v x:=by
 cases h<;>(simp only[m8];constructor<;>assumption)
theorem tK(hT:bw P T)(hs:bR T n g0 w0 S g a w):∀ {rs:List ResultVar} {l:List AV},
  fj (fun r=>match m4 T S r with | some v=>(match zM T S v with | some v=>some (oG v) | none=>none) | none=>none) rs=some l→
  ∃xs:List Value,rs.length=xs.length∧(∀(j:Nat) r x,rs[j]? =some r→xs[j]? =some x→(yi a.tmps r).run P w= .ok x w)∧l.length=xs.length∧ ∀(j:Nat) u x,l[j]? =some u→xs[j]? =some x→aA (g.wu w) w u x
 | [],l,h=>by
  cases h;exact⟨[],rfl,by simp,rfl,by simp⟩
 | r::rs,l,h=>by
  unfold fj at h;split at h
  ·rename_i b hb;split at h
   ·rename_i m hm;cases h;obtain⟨xs,h1,h2,h3,h4⟩:=tK hT hs hm;split at hb
    ·rename_i v hv;split at hb
     ·rename_i u hu;cases hb;obtain⟨x,hx,t,hr⟩:=wq (P:=P) hT hs hv;have hA:aA (g.wu w) w (oG u) x:=by
       rcases Es (a:=a) hs hu hr with⟨sz,rows,rfl,hO⟩ | ⟨h1,h2⟩
       ·exact .p hO.K3
       ·cases u with
        | own sz rows=>exact h2.xK.elim
        | mo sz rows=>cases h2
        | vw l i sz m=>cases h2
        | el l i sz k o=>cases h2
        | cp q sz rows=>exact h2.lQ.elim
        | _=>exact h2
      refine⟨x::xs,by simp[h1],fun j agf agv hj jz=>?_,by simp[h3],fun j agu agv hj jz=>?_⟩
      ·cases j with
       | zero=>simp at hj jz;subst hj;subst jz;exact hx
       | succ j=>exact h2 j agf agv (by simpa using hj) (by simpa using jz)
      ·cases j with
       | zero=>simp at hj jz;subst hj;subst jz;exact hA
       | succ j=>exact h4 j agu agv (by simpa using hj) (by simpa using jz)
     ·cases hb
    ·cases hb
   ·cases h
  ·cases h
def J9(e:BK):Prop:=(∃t,e= .cw (.slot t))∨ ∃k,e= .box (.own k)
theorem Mt{X Y:BK→Prop}{g1 g2 g3:G}{w1 w2 w3:World}(h:j8 X g1 w1 g2 w2)(k:j8 Y g2 w2 g3 w3):j8 (fun e=>X e∨Y e) g1 w1 g3 w3 where
 os:=k.os.trans h.os
 tape:=k.tape.trans h.tape
 output:=k.output.trans h.output
 size:=Nat.le_trans h.size k.size
 same b hb hx:=by
  obtain⟨a1,a2,a3⟩:=h.same b hb (fun e=>hx (.inl e));obtain⟨b1,b2,b3⟩:=k.same b (Nat.lt_of_lt_of_le hb h.size) (fun e=>hx (.inr (by rw[←a3];exact e)));exact⟨b1.trans a1,b2.trans a2,b3.trans a3⟩
 ge:=h.ge.trans k.ge
 fresh:=k.fresh
 fz a ha:=(k.fz a (Nat.lt_of_lt_of_le ha h.size)).trans (h.fz a ha)
theorem xe{X Y:BK→Prop}{g1 g2:G}{w1 w2:World}(h:j8 X g1 w1 g2 w2)(hxy:∀e,X e→Y e):j8 Y g1 w1 g2 w2:=
 ⟨h.os,h.tape,h.output,h.size,fun b hb hx=>h.same b hb (fun e=>hx (hxy _ e)),h.ge,h.fresh,h.fz⟩
theorem Mu(hs:bR T n g0 w0 S g a w){k sz:Nat}{rows:List (List PV)}(hb:S.bx (.own k)=some (.rows sz rows)){x:Value}(hx:aA g w (.bs (.own k) sz rows.length) x):cK w (g.wu w).H (.sl sz rows) x:=by
 obtain⟨cap,rfl,hc,hK⟩:=LR hx;obtain⟨_,hH,xs,t,hh,hle,hr,hC⟩:=hs.boxes _ _ hb;have JC:=cd hr;refine .sl (fun j=>(xs[j]?).getD undef) hc hr (Nat.le_trans (by omega) (Mr hK hh)) (fun j u hj=>?_) (fun j u hj=>?_)
 ·obtain⟨y,hy,hp⟩:=hC.at_ hj;have aN:j<rows.length*sz:=by have:=(List.getElem?_eq_some_iff.1 hj).1;omega
  rw[List.getElem?_take_of_lt aN,Array.getElem?_toList]at hy;rw[Nat.zero_add,bF hh,hy];rfl
 ·obtain⟨y,hy,hp⟩:=hC.at_ hj;have aN:j<rows.length*sz:=by have:=(List.getElem?_eq_some_iff.1 hj).1;omega
  rw[List.getElem?_take_of_lt aN,Array.getElem?_toList]at hy;simp only[hy,Option.getD_some];exact hp.ext tJ
theorem AP(hT:bw P T)(hs:bR T n g0 w0 S g a w){fn:Func}{v:AV}{R:AV→Prop}(h:nF T S fn.results.toList=some v)(hR:DR S v R):
  ∃x g2 u,(results fn a.tmps).run P w= .ok x w∧R u∧m8 g2 w u x∧j8 J9 g w g2 w∧j8 J9 (g.wu w) w g2 w:=by
 have TK:j8 J9 g w (g.wu w) w:=xe (qL hs.fresh) (fun e h=> .inr h);have TL:j8 J9 (g.wu w) w (g.wu w) w:=⟨rfl,rfl,rfl,Nat.le_refl _,fun _ _ _=>⟨rfl,rfl,rfl⟩,.refl _ _,(qL hs.fresh).fresh,fun _ _=>rfl⟩;unfold nF at h;split at h
 ·rename_i rs r Ze;split at h
  ·rename_i v0 Xo;obtain⟨x,hx,t,hr⟩:=wq (P:=P) hT hs Xo;have cn:=wv (P:=P) (w:=w) (fn:=fn) (tmps:=a.tmps) (xs:= [x]) (by rw[Ze];rfl) (fun j agf agv hj jz=>by
    rw[Ze]at hj;cases j with
    | zero=>simp at hj jz;subst hj;subst jz;exact hx
    | succ j=>simp at hj)
   have cn:(results fn a.tmps).run P w= .ok x w:=cn;rcases Es (a:=a) hs h hr with⟨sz,rows,rfl,hO⟩ | ⟨h1,h2⟩
   ·obtain⟨g2,k1,k2,k3,k4⟩:=dG.hand (q':= .res) (qL hs.fresh).fresh hO;exact⟨x,g2,_,cn,hR,k2,xe (Mt TK k1) (fun e h=>h.elim id (fun h=> .inl ⟨t,h⟩)),xe k1 (fun e h=> .inl ⟨t,h⟩)⟩
   ·by_cases ny:∃l sz m,v= .bs l sz m
    ·obtain⟨l,sz,m,rfl⟩:=ny;unfold DR at hR;simp only at hR;split at hR
     ·rename_i db rows hb;cases hq:Nat.beq db sz with
      | false=>rw[hq]at hR;exact hR.elim
      | true=>
       rw[hq]at hR;have:=beq_true.1 hq;subst this;obtain⟨rfl,hR⟩:=hR;have hl:∃k,l= .own k:=by
        cases v0<;>simp only[zM]at h<;>try (cases h;done)
        all_goals first
         | (split at h<;>(try cases h)<;>done)
         | skip
        ·rename_i l0 o0;cases l0<;>simp[zM]at h
        ·rename_i l0;cases l0 with
         | ext j=>cases h
         | own k=>
          simp only at h;split at h<;>cases h
        ·rename_i l0 sz0 m0;cases l0 with
         | ext j=>cases h
         | own k=>
          simp only at h;split at h
          ·rename_i sz1 acC tj;revert h;cases Nat.beq sz1 sz0 with
           | false=>intro h;cases h
           | true=>intro h;cases h;exact⟨k,rfl⟩
          ·cases h
       obtain⟨k,rfl⟩:=hl;have h3:aA g w (.bs (.own k) db rows.length) x:=by
        obtain⟨cap,rfl,hc,hK⟩:=LR h2;exact .bs rfl hK hc
       exact⟨x,g.wu w,_,cn,hR,aA.p (Mu hs hb h3),TK,TL⟩
     ·exact hR.elim
    ·have ad5:R v:=by
      unfold DR at hR;split at hR
      ·exact absurd ⟨_,_,_,rfl⟩ ny
      ·exact hR
     exact⟨x,g.wu w,v,cn,ad5,.of h2,TK,TL⟩
  ·cases h
 ·rename_i rs dA;split at h
  ·rename_i l hl;cases h;obtain⟨xs,h1,h2,h3,h4⟩:=tK (P:=P) hT hs hl;have cn:=wv (P:=P) (w:=w) (fn:=fn) (tmps:=a.tmps) h1 h2;refine⟨.tuple xs.toArray,g.wu w,.dE l,?_,hR,.of (.dE (by simpa using h3) (fun j u x hu hx=>h4 j u x hu (by simpa using hx))),TK,TL⟩;rw[cn];have:¬xs.toArray.size=1:=by
    intro e;cases hr:fn.results.toList with
    | nil=>rw[hr]at h1;simp at h1 e;omega
    | cons r rs=>cases rs with
     | nil=>exact dA r hr
     | cons r2 rs=>rw[hr]at h1;simp at h1 e;omega
   rw[dif_neg this]
  ·cases h
theorem fp(t:Nat):∀(args:List AV) (i:Nat),mkGet (lN args i) t=if i≤t then(args[t-i]?).getD .dead else .dead
 | [],i=>by simp[lN,mkGet]
 | v::r,i=>by
  unfold lN mkGet;cases hb:Nat.beq i t with
  | true=>
   have:=beq_true.1 hb;subst this;simp
  | false=>
   have:=beq_false.1 hb;rw[cond_false,fp t r (i+1)];by_cases h:i≤t
   ·rw[if_pos (by omega),if_pos h];have e:t-i=(t-(i+1))+1:=by omega
    rw[e];simp
   ·rw[if_neg (by omega),if_neg h]
theorem tL(l:Loc):∀(bs:List er) (i:Nat),∀b,FQ (Lp bs i) l=some b→ ∃j,i≤j∧l= .ext j∧bs[j-i]? =some b
 | [],i,b,h=>by cases h
 | c::r,i,b,h=>by
  unfold Lp FQ at h;cases he:Loc.mI (.ext i) l with
  | true=>
   rw[he]at h;cases h;exact⟨i,Nat.le_refl _,(Loc.fJ.1 he).symm,by simp⟩
  | false=>
   rw[he]at h;obtain⟨j,h1,h2,h3⟩:=tL l r (i+1) b h;refine⟨j,by omega,h2,?_⟩;have e:j-i=(j-(i+1))+1:=by omega
   rw[e];simpa using h3
theorem fA.Mv(φ:AV→AV)(hφ:∀(g:G) (w:World) v x,m8 g w v x→m8 g w (φ v) x)(hT:bw P T)(o7:P.follows .mixedOrders=true){f:FuncId}{fn:Func}{c:Code}(hf:P.funcs[f]? =some fn)(Ep:(fn.name== "runtime.NumGoroutine")=false)(hb:fn.body=some c)(cq:codeOk fn.ntmps c=true)
  {args:List AV} {ext ext':List er} {r:AV} (hle:Nat.ble args.length fn.ntmps=true) (h:oK T (fA P T) c (St.enter args ext) (pB T fn.results.toList ext.length (fun agf bs=>φ agf=r∧bs=ext'))):fA P T f args ext r ext':=by
 refine⟨⟨fn,hf,Ep,by rw[hb];rfl⟩,fun g w xs lp sg hlen fR yj=>?_⟩;have hle:=Nat.le_of_ble_eq_true hle;refine calls_of_wp hf hb (J8 (n:=fn.ntmps) (g0:=⟨g.H,g.K,g.B,[]⟩) (w0:=w) (g:=g) hT o7 sg c cq (S:=St.enter args ext) ?_ h ?_)
 ·exact {
   defers:=rfl
   size:=by simp;omega
   bH:=fun t=>by
    show mg g w _ t (mkGet (lN args 0) t) _;rw[fp];simp only[Nat.zero_le,if_true,Nat.sub_zero];cases ht:args[t]? with
    | none=>exact aA.dead _
    | some u=>
     have aN:t<args.length:=(List.getElem?_eq_some_iff.1 ht).1;have hx:xs[t]? =some xs[t]:=Array.getElem?_eq_getElem (by omega);have e:(xs++Array.replicate (fn.ntmps-xs.size) undef).getD t undef=xs[t]:=by
      rw[Array.getD_eq_getD_getElem?,Array.getElem?_append_left (by omega),hx];rfl
     rw[e];exact .of (fR t u _ ht hx)
   boxes:=fun l b hb=>by
    obtain⟨j,_,rfl,hj⟩:=tL l ext 0 b hb;exact yj j b (by simpa using hj)
   fresh:=lp
   dc:=fun t s sz rows e=>by
    have e:mkGet (lN args 0) t= .cp (.slot s) sz rows:=e;rw[fp]at e;simp only[Nat.zero_le,if_true,Nat.sub_zero]at e;cases ht:args[t]? with
    | none=>rw[ht]at e;cases e
    | some u=>
     rw[ht]at e;have e:u= .cp (.slot s) sz rows:=e;subst e;have aN:t<args.length:=(List.getElem?_eq_some_iff.1 ht).1;exact(fR t _ _ ht (Array.getElem?_eq_getElem (by omega))).lQ.elim
   aJ:=fun t l e=>by
    have e:eu (mkGet (lN args 0) t)=some l:=e;rw[fp]at e;simp only[Nat.zero_le,if_true,Nat.sub_zero]at e;cases ht:args[t]? with
    | none=>rw[ht]at e;cases e
    | some u=>
     rw[ht]at e;have e:eu u=some l:=e;have aN:t<args.length:=(List.getElem?_eq_some_iff.1 ht).1;rw[(fR t _ _ ht (Array.getElem?_eq_getElem (by omega))).pJ]at e;cases e
   dm:=fun t sz rows e=>by
    have e:mkGet (lN args 0) t= .cp .res sz rows:=e;rw[fp]at e;simp only[Nat.zero_le,if_true,Nat.sub_zero]at e;cases ht:args[t]? with
    | none=>rw[ht]at e;cases e
    | some u=>
     rw[ht]at e;have e:u= .cp .res sz rows:=e;subst e;have aN:t<args.length:=(List.getElem?_eq_some_iff.1 ht).1;exact(fR t _ _ ht (Array.getElem?_eq_getElem (by omega))).lQ.elim
   de:=fun t s wt v e=>by
    have e:mkGet (lN args 0) t= .fS s wt v:=e;rw[fp]at e;simp only[Nat.zero_le,if_true,Nat.sub_zero]at e;cases ht:args[t]? with
    | none=>rw[ht]at e;cases e
    | some u=>
     rw[ht]at e;have e:u= .fS s wt v:=e;subst e;have aN:t<args.length:=(List.getElem?_eq_some_iff.1 ht).1;exact(fR t _ _ ht (Array.getElem?_eq_getElem (by omega))).uJ.elim
   live:=fun k hk=>absurd hk (sg _ _)
   frame:=⟨rfl,rfl,rfl,Nat.le_refl _,fun b hb hk=>⟨rfl,rfl,hk⟩,⟨.refl _ _,fun _ h=>⟨rfl,h⟩⟩,fun _ _=>rfl⟩}
 ·intro e agj g' agd w' hE gu;have key:(match nF T agj fn.results.toList,fj (fun j=>agj.bx (.ext j)) (List.range ext.length)with
    | some v,some bs=>DR agj v fun v=>φ v=r∧bs=ext'
    | _,_=>False)→agd.defers= []∧ ∃v,(results fn agd.tmps).run P w'= .ok v w'∧ ∃x Ps,Ending.returned v= .returned x∧Frame g w Ps w'∧eW Ps w'∧m8 Ps w' r x∧
   (∀(j:Nat) b,ext'[j]? =some b→iB T Ps w' (.ext j) b)∧ ∀(j:Nat),j<ext.length→Ps.B (.ext j)=g.B (.ext j):=by
   intro hE;split at hE
   ·rename_i v bs hv ny;obtain⟨x,g2,u,cn,⟨rfl,rfl⟩,hr,hc,_⟩:=AP (P:=P) hT gu hv hE;have hX:¬J9 BK.none:=fun h=>by
     rcases h with⟨t,e⟩ | ⟨t,e⟩<;>cases e
    have Ph:=hc.frame hX gu.frame;have hf:Frame g w g2 w':=⟨Ph.os,Ph.tape,Ph.output,Ph.size,Ph.bM,⟨Ph.ge.ext,Ph.ge.box⟩,Ph.fz⟩;refine⟨gu.defers,x,cn,x,g2,rfl,hf,hc.fresh,hφ _ _ _ _ hr,fun j b hj=>?_,fun j hj=>?_⟩
    ·obtain⟨b1,b2⟩:=dr ny;have sZ:j<ext.length:=by have:=(List.getElem?_eq_some_iff.1 hj).1;simpa [b1]using this
     have hb:=b2 j j b (by simp[sZ]) hj;refine(gu.boxes _ _ hb).jq hc (fun h=>?_) (fun i h=>?_)
     ·rcases h with⟨t,e⟩ | ⟨t,e⟩<;>cases e
     ·rcases h with⟨t,e⟩ | ⟨t,e⟩<;>cases e
    ·have hb:=yj j ext[j] (List.getElem?_eq_getElem hj);exact(hf.ge.box _ hb.gV).1
   ·exact hE.elim
  cases e with
  | exit id=>exact hE.elim
  | normal=>exact key hE
  | ret=>exact key hE
theorem m8.lf{v:AV}{x:Value}(h:m8 g w v x):m8 g w v.lf x:=by
 cases v with
 | own sz rows=>exact aA.p (dG.K3 h)
 | cp q sz rows=>exact(aA.lQ h).elim
 | fS s wt u=>exact(aA.uJ h).elim
 | mo=>cases h
 | mv=>cases h
 | vw=>cases h
 | el=>cases h
 | V3=>cases h
 | _=>exact h
theorem fA.intro(hT:bw P T)(o7:P.follows .mixedOrders=true){f:FuncId}{fn:Func}{c:Code}(hf:P.funcs[f]? =some fn)(Ep:(fn.name== "runtime.NumGoroutine")=false)(hb:fn.body=some c)(cq:codeOk fn.ntmps c=true)
  {args:List AV} {ext ext':List er} {r:AV} (hle:Nat.ble args.length fn.ntmps=true) (h:oK T (fA P T) c (St.enter args ext) (pB T fn.results.toList ext.length (fun agf bs=>agf=r∧bs=ext'))):fA P T f args ext r ext':=
 fA.Mv (fun v=>v) (fun _ _ _ _ h=>h) hT o7 hf Ep hb cq hle h
theorem fA.yk(hT:bw P T)(o7:P.follows .mixedOrders=true){f:FuncId}{fn:Func}{c:Code}(hf:P.funcs[f]? =some fn)(Ep:(fn.name== "runtime.NumGoroutine")=false)(hb:fn.body=some c)(cq:codeOk fn.ntmps c=true)
  {args:List AV} {ext ext':List er} {r:AV} (hle:Nat.ble args.length fn.ntmps=true) (h:oK T (fA P T) c (St.enter args ext) (pB T fn.results.toList ext.length (fun agf bs=>agf.lf=r∧bs=ext'))):fA P T f args ext r ext':=
 fA.Mv AV.lf (fun _ _ _ _ h=>m8.lf h) hT o7 hf Ep hb cq hle h
end
def Shape(T:TE):Nat→TypeId→List PV→Prop
 | 0,_,_=>False
 | m+1,t,cs=>match T t with
  | some ⟨.int k,_,_,_,_⟩=>∃n,cs= [.int k n]∧k.min≤n∧n≤k.max
  | some ⟨.bool,_,_,_,_⟩=>∃b,cs= [.bool b]
  | some ⟨.str,_,_,_,_⟩=>∃l,cs= [.str l]∧l.length≤maxLen
  | some ⟨.slice e,_,_,_,_⟩=>∃rows,cs= [.sl (T.size e) rows]∧rows.length≤maxLen∧ ∀r∈rows,Shape T m e r
  | some ⟨.struct fs,sz,_,_,_⟩=>cs.length=sz∧ ∀f∈fs,Shape T m f.2 (fe (gn cs f.1) (T.size f.2))
  | some ⟨.arr n e,sz,_,_,_⟩=>cs.length=sz∧ ∀i,i<n→Shape T m e (fe (gn cs (i*T.size e)) (T.size e))
  | _=>False
def ku(T:TE):Nat→TypeId→Bool
 | 0,_=>false
 | m+1,t=>match T t with
  | some ⟨.int _,_,_,_,_⟩=>true
  | some ⟨.bool,_,_,_,_⟩=>true
  | some ⟨.str,_,_,_,_⟩=>true
  | some ⟨.slice e,_,_,_,_⟩=>(T e).isSome&&ku T m e
  | some ⟨.struct fs,sz,_,_,_⟩=>iS T sz fs 0&&fs.all fun f=>(T f.2).isSome&&ku T m f.2
  | some ⟨.arr n e,sz,_,_,_⟩=>Nat.beq (n*T.size e) sz&&((T e).isSome&&ku T m e)
  | _=>false
 where iS (T:TE) (sz:Nat):List (Nat×TypeId)→Nat→Bool
 | [],k=>Nat.beq k sz
 | (o,t)::r,k=>Nat.beq o k&&iS T sz r (k+T.size t)
theorem mapM_some{α β:Type}{f:α→Option β} :∀ {l:List α} {r:List β},l.mapM f=some r→l.length=r.length∧ ∀(j:Nat) x,l[j]? =some x→ ∃y,r[j]? =some y∧f x=some y
 | [],r,h=>by
  simp at h;subst h;exact⟨rfl,by simp⟩
 | x::l,r,h=>by
  rw[List.mapM_cons]at h;cases hx:f x with
  | none=>rw[hx]at h;simp at h
  | some y=>
   rw[hx]at h;cases hl:l.mapM f with
   | none=>rw[hl]at h;simp at h
   | some ys=>
    rw[hl]at h;simp at h;subst h;obtain⟨h1,h2⟩:=mapM_some hl;refine⟨by simp[h1],fun j z hz=>?_⟩;cases j with
    | zero=>simp at hz;subst hz;exact⟨y,rfl,hx⟩
    | succ j=>simpa using h2 j z (by simpa using hz)
section
variable {P:Program} {T:TE} {w:World}
theorem GB{base:Nat}{a:Addr}{n:Nat}{cs:List Value}(h:w.cells? base a n=some cs):cs.length=n∧ ∀(j:Nat) x,cs[j]? =some x→w.cell? (a.add j)=some x:=by
 unfold World.cells? at h;split at h
 ·obtain⟨h1,h2⟩:=mapM_some h;refine⟨by simpa using h1.symm,fun j x hx=>?_⟩;have hj:j<n:=by have:=(List.getElem?_eq_some_iff.1 hx).1;simp at h1;omega
  obtain⟨y,hy,he⟩:=h2 j j (by rw[List.getElem?_range hj]);rw[hx]at hy;cases hy;exact he
 ·cases h
theorem AR{a:Addr}{x:Value}(h:w.cell? a=some x):a.spot=none∧a.off<(match w.heap[a.block]? with | some (.cells c _ _)=>c.size | _=>0):=by
 unfold World.cell? at h;split at h
 ·rename_i c t f hb;rw[hb];split at h
  ·cases h
  ·rename_i hs;exact⟨by simpa using hs,(Array.getElem?_eq_some_iff.1 h).1⟩
 ·cases h
def tM(w:World)(b:Nat):Nat:=match w.heap[b]? with | some (.cells c _ _)=>c.size | _=>0
abbrev iS:=ku.iS
theorem ym{sz:Nat} :∀ {fs:List (Nat×TypeId)} {k:Nat},iS T sz fs k=true→k≤sz∧ ∀f∈fs,k≤f.1
 | [],k,h=>⟨Nat.le_of_eq (beq_true.1 h),by simp⟩
 | (o,t)::r,k,h=>by
  simp only[iS,ku.iS,Bool.and_eq_true]at h;have e:=beq_true.1 h.1;obtain⟨h1,h2⟩:=ym (fs:=r) h.2;refine⟨by omega,fun f hf=>?_⟩;rw[List.mem_cons]at hf;rcases hf with rfl | hf
  ·simp[e]
  ·have:=h2 f hf;omega
theorem TM{H:Nat→Nat}{Sh:TypeId→List PV→Prop}{sz:Nat} :∀(fs:List (Nat×TypeId)) (k:Nat) (xs:List Value),iS T sz fs k=true→xs.length=sz-k→
  (∀f∈fs,∃cs,dg w H cs ((xs.drop (f.1-k)).take (T.size f.2))∧Sh f.2 cs)→ ∃cs,dg w H cs xs∧ ∀f∈fs,Sh f.2 (fe (gn cs (f.1-k)) (T.size f.2))
 | [],k,xs,h,hl,_=>by
  have:=beq_true.1 h;have:xs= []:=List.eq_nil_of_length_eq_zero (by omega);subst this;exact⟨[],⟨rfl,by simp⟩,by simp⟩
 | (o,t)::r,k,xs,h,hl,hp=>by
  have hc:=h;simp only[iS,ku.iS,Bool.and_eq_true]at hc;have e:=beq_true.1 hc.1;subst e;obtain⟨c1,c2⟩:=ym (fs:=r) hc.2;obtain⟨Xp,h0,hs0⟩:=hp (o,t) List.mem_cons_self;simp only[Nat.sub_self,List.drop_zero]at h0;have WD:Xp.length=T.size t:=by rw[h0.1,List.length_take];omega
  obtain⟨Af,h1,h2⟩:=TM (Sh:=Sh) r (o+T.size t) (xs.drop (T.size t)) hc.2 (by rw[List.length_drop];omega) (fun f hf=>by
   obtain⟨cs,k1,k2⟩:=hp f (List.mem_cons_of_mem _ hf);refine⟨cs,?_,k2⟩;rw[List.drop_drop];have:=c2 f hf;have e:T.size t+(f.1-(o+T.size t))=f.1-o:=by omega
   rw[e];exact k1)
  refine⟨Xp++Af,?_,fun f hf=>?_⟩
  ·have e:xs=xs.take (T.size t)++xs.drop (T.size t):=(List.take_append_drop _ _).symm;rw[e];exact h0.append h1
  ·rw[List.mem_cons]at hf;rcases hf with rfl | hf
   ·simp only[Nat.sub_self];rw[gf,jb,List.drop_zero,←WD,List.take_left']
    ·exact hs0
    ·rfl
   ·have:=c2 f hf;have:=h2 f hf;rw[gf,jb]at this ⊢;have e:f.1-o=Xp.length+(f.1-(o+T.size t)):=by omega
    rw[e,List.drop_append,List.drop_of_length_le (by omega),List.nil_append];have e2:Xp.length+(f.1-(o+T.size t))-Xp.length=f.1-(o+T.size t):=by omega
    rw[e2];exact this
theorem kj(hT:bw P T){t:TypeId}{i:TI}(h:T t=some i):P.cellsOf t=T.size t:=by
 obtain⟨ti,z,k1,k2,_⟩:=hT.info t i h;simp[Program.cellsOf,k1,TE.size,h,k2]
theorem Eu(h:bw P T){t:TypeId}{s b:Nat}{z:List AV}{c:Bool}(ht:T t=some ⟨.bool,s,b,z,c⟩):P.underlying t=some .bool:=by
 obtain⟨d,hd,hm⟩:=h.Jz t _ ht;cases d<;>simp[kY]at hm
 exact hd
theorem yn(h:bw P T){t:TypeId}{s b:Nat}{z:List AV}{c:Bool}(ht:T t=some ⟨.str,s,b,z,c⟩):P.underlying t=some .string:=by
 obtain⟨d,hd,hm⟩:=h.Jz t _ ht;cases d<;>simp[kY]at hm
 exact hd
theorem ng{H:Nat→Nat}{u:PV}{x:Value}(h:cK w H u x):dg w H [u] [x]:=⟨rfl,fun j v y hv hy=>by
 cases j with
 | zero=>simp at hv hy;subst hv;subst hy;exact h
 | succ j=>simp at hv⟩
theorem Mw(hT:bw P T){Hd:Type}{enc:TypeId×Value→Hd}{spare:Nat→Bool}{held:Bool} :∀(m fuel:Nat) {t:TypeId} {xs:List Value} {r:DataW Hd×List MemPlace},ku T m t=true→DataW.trod enc P w 0 spare held fuel t xs=some r→
  ∃cs,dg w (tM w) cs xs∧Shape T m t cs:=by
 intro m;induction m with
 | zero=>intro fuel t xs r h;cases h
 | succ m ih=>
  intro fuel t xs r hp h;cases fuel with
  | zero=>simp[DataW.trod]at h
  | succ fuel=>
  unfold ku at hp;unfold Shape;split at hp
  ·rename_i k _ _ _ _ ht;have hu:=qz hT ht;unfold DataW.trod at h;rw[hu]at h;split at h<;>rename_i e1<;>first | (cases e1;done) | (cases h;done) | skip
   cases e1;split at h
   ·rename_i hw;obtain⟨rfl,hw⟩:=hw;simp only[Lit.wf,Bool.and_eq_true,decide_eq_true_eq]at hw;exact⟨_,ng (.int _ _),_,rfl,hw⟩
   ·cases h
  ·rename_i ht;have hu:=Eu hT ht;unfold DataW.trod at h;rw[hu]at h;split at h<;>rename_i e1<;>first | (cases e1;done) | (cases h;done) | skip
   exact⟨_,ng (.bool _),_,rfl⟩
  ·rename_i ht;have hu:=yn hT ht;unfold DataW.trod at h;rw[hu]at h;split at h<;>rename_i e1<;>first | (cases e1;done) | (cases h;done) | skip
   split at h
   ·rename_i s hs;have e:s=⟨(s.data.toList).toArray⟩:=by cases s;simp
    have hr:=cK.str (w:=w) (H:=tM w) s.data.toList;rw[←e]at hr;exact⟨_,ng hr,_,rfl,hs⟩
   ·cases h
  ·rename_i e _ _ _ _ ht;have hu:=ga hT ht;rw[Bool.and_eq_true]at hp;obtain⟨ie,fQ⟩:=Option.isSome_iff_exists.1 hp.1;have hce:=kj hT fQ;unfold DataW.trod at h;rw[hu]at h;split at h<;>rename_i e1<;>first | (cases e1;done) | (cases h;done) | skip
   ·exact⟨_,ng (.nil _ none 0 (fun _=>rfl)),[],rfl,Nat.zero_le _,by simp⟩
   ·rename_i a len cap;cases e1;simp only[hce]at h;split at h
    ·rename_i hc;obtain⟨_,hlc,Aq⟩:=hc;rw[Option.bind_eq_some_iff]at h;obtain⟨elems,Wb,_⟩:=h;obtain⟨h1,h2⟩:=mapM_some Wb;have h1:elems.length=len:=by simpa using h1.symm
     have aaF:1≤T.size e:=by
      obtain⟨_,_,_,_,_,k4,_⟩:=hT.info e ie fQ;simpa [TE.size,fQ]using k4
     have one:∀i,i<len→ ∃cs:List PV,Shape T m e cs∧cs.length=T.size e∧ ∀(j:Nat) u,cs[j]? =some u→ ∃x,w.cell? ((a.add (i*T.size e)).add j)=some x∧cK w (tM w) u x:=by
      intro i hi;obtain⟨y,_,hy⟩:=h2 i i (by rw[List.getElem?_range hi]);rw[Option.bind_eq_some_iff]at hy;obtain⟨xs,La,hy⟩:=hy;obtain⟨c1,c2⟩:=GB La;obtain⟨cs,k1,k2⟩:=ih fuel hp.2 hy;refine⟨cs,k2,by rw[k1.1];exact c1,fun j u hu=>?_⟩;have hj:j<xs.length:=by have:=(List.getElem?_eq_some_iff.1 hu).1;rw[←k1.1];exact this
      have hx:xs[j]? =some xs[j]:=List.getElem?_eq_getElem hj;exact⟨_,c2 j _ hx,k1.2 j u _ hu hx⟩
     by_cases hz:len=0
     ·subst hz;exact⟨_,ng (.nil _ (some a) cap (fun h=>by cases h)),[],rfl,Nat.zero_le _,by simp⟩
     ·
      have Tc:a.spot=none:=by
       obtain⟨cs,_,k2,k3⟩:=one 0 (by omega);have Tf:cs[0]? =some cs[0]:=List.getElem?_eq_getElem (by omega);obtain⟨x,hx,_⟩:=k3 0 _ Tf;have:=(AR hx).1;simpa [Addr.add]using this
      obtain⟨b,o,sp⟩:=a;simp only at Tc;subst Tc
      let rows:List (List PV):=(List.range len).map fun i=>if hi:i<len then(one i hi).choose else []
      have lO:∀(i:Nat) r,rows[i]? =some r→ ∃hi:i<len,r=(one i hi).choose:=by
       intro i r hr;simp only[rows,List.getElem?_map,Option.map_eq_some_iff]at hr;obtain⟨q,hq,rfl⟩:=hr;have aN:i<len:=by have:=(List.getElem?_eq_some_iff.1 hq).1;simpa using this
       rw[List.getElem?_range aN]at hq;cases hq;exact⟨aN,by rw[dif_pos aN]⟩
      have FC:rows.length=len:=by simp[rows]
      have Zp:∀r∈rows,r.length=T.size e:=fun r hr=>by
       obtain⟨i,hi⟩:=List.getElem?_of_mem hr;obtain⟨aN,rfl⟩:=lO i r hi;exact(one i aN).choose_spec.2.1
      have bU:∀(j:Nat) u,rows.flatten[j]? =some u→ ∃x,w.cell? ⟨b,o+j,none⟩=some x∧cK w (tM w) u x:=by
       intro j u hu;have sZ:j<len*T.size e:=by
        have:=(List.getElem?_eq_some_iff.1 hu).1;rw[cd Zp,FC]at this;exact this
       have hi:j/T.size e<len:=Nat.div_lt_of_lt_mul (by rw[Nat.mul_comm];exact sZ);have hjm:j%T.size e<T.size e:=Nat.mod_lt _ aaF;have hr:rows[j/T.size e]? =some rows[j/T.size e]:=List.getElem?_eq_getElem (by omega);obtain⟨aN,he⟩:=lO _ _ hr;have hf:=gr Zp hr hjm;have hdm:j/T.size e*T.size e+j%T.size e=j:=by rw[Nat.mul_comm];exact Nat.div_add_mod _ _
       rw[hdm,hu,he]at hf;obtain⟨x,hx,hp⟩:=(one _ aN).choose_spec.2.2 _ u hf.symm;rw[Addr.add_eq,Addr.add_eq,Nat.add_assoc,hdm]at hx;exact⟨x,hx,hp⟩
      refine⟨[.sl (T.size e) rows],ng ?_,rows,rfl,by omega,fun r hr=>?_⟩
      ·have:=cK.sl (w:=w) (H:=tM w) (sz:=T.size e) (rows:=rows) (b:=b) (o:=o) (cap:=cap) (fun j=>(w.cell? ⟨b,o+j,none⟩).getD undef) (by omega) Zp ?_ (fun j u hu=>?_) (fun j u hu=>?_)
       ·rw[FC]at this;exact this
       ·rw[FC];have mP:0<len*T.size e:=Nat.mul_pos (by omega) (by omega);have yo:len*T.size e-1<rows.flatten.length:=by rw[cd Zp,FC];omega
        obtain⟨x,hx,_⟩:=bU (len*T.size e-1) _ (List.getElem?_eq_getElem yo);have:=(AR hx).2;have:o+(len*T.size e-1)<tM w b:=this;omega
       ·obtain⟨x,hx,_⟩:=bU j u hu;rw[hx];rfl
       ·obtain⟨x,hx,hp⟩:=bU j u hu;simp only[hx];exact hp
      ·obtain⟨i,hi⟩:=List.getElem?_of_mem hr;obtain⟨aN,rfl⟩:=lO i r hi;exact(one i aN).choose_spec.1
    ·cases h
  ·rename_i fs sz _ _ _ ht;rw[Bool.and_eq_true]at hp;obtain⟨gs,hu,FF⟩:=kd hT ht;have TN:=kj hT ht;have dZ:T.size t=sz:=by simp[TE.size,ht]
   unfold DataW.trod at h;rw[hu]at h;simp only at h;split at h
   ·rename_i hl;rw[Option.map_eq_some_iff]at h;obtain⟨ys,Mc,_⟩:=h;obtain⟨h1,h2⟩:=mapM_some Mc;obtain⟨cs,k1,k2⟩:=TM (Sh:=Shape T m) (w:=w) (H:=tM w) fs 0 xs hp.1 (by rw[hl,TN,dZ];rfl) (fun f hf=>by
     rw[FF]at hf;obtain⟨fd,HL,rfl⟩:=List.mem_map.1 hf;have hpf:=List.all_eq_true.1 hp.2 _ (by rw[FF];exact hf);rw[Bool.and_eq_true]at hpf;obtain⟨ift,aaI⟩:=Option.isSome_iff_exists.1 hpf.1;obtain⟨j,hj⟩:=List.getElem?_of_mem HL;obtain⟨y,_,hy⟩:=h2 j fd hj;rw[kj hT aaI]at hy;obtain⟨cs,k1,k2⟩:=ih fuel hpf.2 hy;exact⟨cs,by simpa using k1,k2⟩)
    exact⟨cs,k1,by rw[k1.1,hl,TN,dZ],fun f hf=>by simpa using k2 f hf⟩
   ·cases h
  ·rename_i len e sz _ _ _ ht;simp only[Bool.and_eq_true]at hp;obtain⟨iH,kl,hp3⟩:=hp;have iH:=beq_true.1 iH;obtain⟨ie,fQ⟩:=Option.isSome_iff_exists.1 kl;have hce:=kj hT fQ;have hu:=nG hT ht;have TN:=kj hT ht;have dZ:T.size t=sz:=by simp[TE.size,ht]
   unfold DataW.trod at h;rw[hu]at h;simp only at h;split at h
   ·rename_i hl;rw[Option.map_eq_some_iff]at h;obtain⟨ys,Mc,_⟩:=h;obtain⟨h1,h2⟩:=mapM_some Mc;have aaJ:∀(c k:Nat),k+c*T.size e=sz→ ∀i0,k=i0*T.size e→iS T sz ((List.range' i0 c).map fun i=>(i*T.size e,e)) k=true:=by
     intro c;induction c with
     | zero=>intro k hk i0 _;simp only[List.range'_zero,List.map_nil];exact beq_true.2 (by omega)
     | succ c ihc=>
      intro k hk i0 hi0;rw[List.range'_succ,List.map_cons];show(Nat.beq (i0*T.size e) k&&iS T sz _ (k+T.size e))=true;rw[Bool.and_eq_true];refine⟨beq_true.2 hi0.symm,ihc (k+T.size e) (by rw[Nat.succ_mul]at hk;omega) (i0+1) (by rw[Nat.succ_mul];omega)⟩
    obtain⟨cs,k1,k2⟩:=TM (Sh:=Shape T m) (w:=w) (H:=tM w) ((List.range' 0 len).map fun i=>(i*T.size e,e)) 0 xs (aaJ len 0 (by omega) 0 (by simp)) (by rw[hl,TN,dZ];rfl) (fun f hf=>by
     obtain⟨i,hi,rfl⟩:=List.mem_map.1 hf;have hi:i<len:=by simpa using hi
     obtain⟨y,_,hy⟩:=h2 i i (by rw[List.getElem?_range hi]);rw[hce]at hy;obtain⟨cs,k1,k2⟩:=ih fuel hp3 hy;exact⟨cs,by simpa using k1,k2⟩)
    exact⟨cs,k1,by rw[k1.1,hl,TN,dZ],fun i hi=>by simpa using k2 (i*T.size e,e) (List.mem_map.2 ⟨i,by simpa using hi,rfl⟩)⟩
   ·cases h
  ·cases hp
end
def Ev:TD→TypeDesc→Bool
 | .int k,.int agc=>decide (k=agc)
 | .bool,.bool=>true
 | .str,.string=>true
 | .ptr,.pointer _=>true
 | .fn,.func _ _ _=>true
 | .map k e,.map agc agm=>Nat.beq k agc&&Nat.beq e agm
 | .slice e,.slice agm=>Nat.beq e agm
 | .arr n e,.array agn agm=>Nat.beq n agn&&Nat.beq e agm
 | .struct fs,.struct gs=>go fs gs.toList
 | _,_=>false
 where go:List (Nat×TypeId)→List Field→Bool
 | [],[]=>true
 | (o,t)::r,f::l=>Nat.beq o f.offset&&Nat.beq t f.type&&go r l
 | _,_=>false
theorem Ew:∀ {fs:List (Nat×TypeId)} {gs:List Field},Ev.go fs gs=true→fs=gs.map fun f=>(f.offset,f.type)
 | [],[],_=>rfl
 | [],_::_,h=>by cases h
 | _::_,[],h=>by cases h
 | (o,t)::r,f::l,h=>by
  simp only[Ev.go,Bool.and_eq_true]at h;rw[beq_true.1 h.1.1,beq_true.1 h.1.2,Ew h.2];rfl
theorem Mx{d:TD}{e:TypeDesc}(h:Ev d e=true):kY d e:=by
 unfold Ev at h;split at h<;>simp only[kY]<;>(try simp only[decide_eq_true_eq,Bool.and_eq_true,beq_true]at h)<;>first | exact h | exact Ew h | trivial | (cases h)
def wx(P:Program)(T:TE)(t:TypeId):Bool:=
 match T t with
 | none=>true
 | some i=>
  (match P.info? t with
   | some ti=>Nat.beq ti.size i.size&&Nat.beq ti.bytes i.bytes&&Nat.ble 1 i.size&&match ti.zero with
    | some z=>Nat.beq z.cells.size i.size&&(rp i.zero z.cells.toList&&(Pt z==T.isAgg t))
    | none=>false
   | none=>false)&&
  (match P.underlying t with | some d=>Ev i.td d | none=>false)&&
  (match i.td with
   | .arr _ e=>(T e).isSome
   | .struct fs=>fs.all fun f=>(T f.2).isSome
   | _=>true)
def wy(P:Program)(T:TE):Nat→Bool
 | 0=>true
 | n+1=>wx P T n&&wy P T n
theorem Ka{P:Program}{T:TE}{n t:Nat}(h:wy P T n=true)(ht:t<n):wx P T t=true:=by
 induction n with
 | zero=>omega
 | succ n ih=>
  simp only[wy,Bool.and_eq_true]at h;by_cases e:t=n
  ·rw[e];exact h.1
  ·exact ih h.2 (by omega)
theorem bw.of{P:Program}{T:TE}{N:Nat}(hN:∀t i,T t=some i→t<N)(h:wy P T N=true)
  (heq:∀t cs,T.cmp t cs=true→ ∀(w:World) (H:Nat→Nat) (ds:List PV) (xs ys:Array Value) (b:Bool),dg w H cs xs.toList→dg w H ds ys.toList→bL cs ds=some b→
  (∀op x y,(eqGuard op t x y (.agg xs) (.agg ys)).run P w= .ok () w)∧(Op.equal t (.agg xs) (.agg ys)).run P w= .ok b w):bw P T:=by
 have one:∀t i,T t=some i→wx P T t=true:=fun t i hi=>Ka h (hN t i hi)
 refine⟨fun t i hi=>?_,fun t i hi=>?_,fun t n e s b z c hi=>?_,fun t fs s b z c hi f hf=>?_,fun t i ti z hi hti hz=>?_,heq⟩
 ·have:=one t i hi;unfold wx at this;rw[hi]at this;simp only[Bool.and_eq_true]at this;have:=this.1.1;split at this
  ·rename_i ti hti;simp only[Bool.and_eq_true]at this;obtain⟨⟨⟨h1,h2⟩,h3⟩,h4⟩:=this;split at h4
   ·rename_i z hz;simp only[Bool.and_eq_true]at h4;exact⟨ti,z,hti,beq_true.1 h1,beq_true.1 h2,Nat.le_of_ble_eq_true h3,hz,beq_true.1 h4.1,h4.2.1⟩
   ·cases h4
  ·cases this
 ·have:=one t i hi;unfold wx at this;rw[hi]at this;simp only[Bool.and_eq_true]at this;have:=this.1.2;split at this
  ·rename_i d hd;exact⟨d,hd,Mx this⟩
  ·cases this
 ·have:=one t _ hi;unfold wx at this;rw[hi]at this;simp only[Bool.and_eq_true]at this;exact Option.isSome_iff_exists.1 this.2
 ·have:=one t _ hi;unfold wx at this;rw[hi]at this;simp only[Bool.and_eq_true]at this;exact Option.isSome_iff_exists.1 (List.all_eq_true.1 this.2 f hf)
 ·have:=one t i hi;unfold wx at this;rw[hi]at this;simp only[Bool.and_eq_true]at this;have:=this.1.1;rw[hti]at this;simp only[Bool.and_eq_true,hz,beq_iff_eq]at this;exact this.2.2.2
end Go.Hm
