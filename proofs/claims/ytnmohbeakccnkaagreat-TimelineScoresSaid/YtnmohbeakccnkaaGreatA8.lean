/- Part 8 of the proof: an abstract machine for the program, its soundness, contracts of functions, and the plain law; no conditions. -/
import Derived.Test.YtnmohbeakccnkaaGreatA7
set_option linter.all false
set_option maxRecDepth 8000
namespace Go.Hm
open Go.Proofs
theorem wrap_u64{x:Int}(h:0≤x)(agl:x≤9223372036854775807):IntKind.u64.wrap x=x:=by
 unfold IntKind.wrap IntKind.bits IntKind.signed;have e1:(2:Int)^64=18446744073709551616:=by decide
 simp only[e1];rw[Int.emod_eq_of_lt h (by omega)];simp
theorem ug{z:Int}{x:Nat}(hz:z=x):DL .u64 z 1=((x/2:Nat):Int):=by
 subst hz;unfold DL;show Int.fdiv (x:Int) (2 ^ (min 1 64))=_;rw[show(2:Int) ^ (min 1 64)=2 by decide,Int.fdiv_eq_ediv_of_nonneg _ (by omega)];omega
theorem Uy(f:Nat→aq)(a k:Nat)(h:a≤k):Ky (Ky (bk f a (a+1) (k+1)) k (bk f a (a+1) (k+1) (k+1))) (k+1) (bk f a (a+1) (k+1) k)=bk f a (a+1) (k+2):=by
 funext p;unfold Ky bk
 repeat' split
 all_goals first
  | (exfalso;omega)
  | rfl
  | (congr 1;omega)
theorem Rf(f:Nat→aq)(a:Nat):bk f a (a+1) (a+1)=f:=by
 funext p;unfold bk
 repeat' split
 all_goals first
  | rfl
  | (congr 1;omega)
theorem A7(f:Nat→aq)(m b:Nat):bk f m m b=f:=by
 funext p;unfold bk
 repeat' split
 all_goals first
  | rfl
  | (congr 1;omega)
theorem A8(f:Nat→aq)(a m:Nat):bk f a m m=f:=by
 funext p;unfold bk
 repeat' split
 all_goals first
  | (exfalso;omega)
  | rfl
  | (congr 1;omega)
theorem Uz{f:Nat→aq}{a b i:Nat}(hs:gv f (a+1) b)(h1:a+1≤i)(h2:i≤b)(uC:∀k,a+1≤k→k<i→(f k).le (f a))(h3:∀k,i≤k→k<b→(f a).le (f k)):gv (bk f a (a+1) i) a b:=by
 intro q j hq hqj hj;have e1:∀k,a≤k→k+1<i→bk f a (a+1) i k=f (k+1):=fun k k1 k2=>by unfold bk;rw[if_pos (by omega),if_pos (by omega)];congr 1;omega
 have e2:bk f a (a+1) i (i-1)=f a:=by unfold bk;rw[if_pos (by omega),if_neg (by omega)];congr 1;omega
 have e3:∀k,i≤k→bk f a (a+1) i k=f k:=fun k k1=>by unfold bk;rw[if_neg (by omega)]
 rcases Nat.lt_trichotomy (q+1) i with E7 | E7 | E7
 ·rw[e1 q hq E7];rcases Nat.lt_trichotomy (j+1) i with z6 | z6 | z6
  ·rw[e1 j (by omega) z6];exact hs _ _ (by omega) (by omega) (by omega)
  ·rw[show j=i-1 by omega,e2];exact uC _ (by omega) (by omega)
  ·rw[e3 j (by omega)];exact hs _ _ (by omega) (by omega) (by omega)
 ·rw[show q=i-1 by omega,e2];by_cases z6:j=i-1
  ·rw[z6,e2];exact aq.le_refl _
  ·rw[e3 j (by omega)];exact h3 _ (by omega) (by omega)
 ·rw[e3 q (by omega),e3 j (by omega)];exact hs _ _ (by omega) (by omega) (by omega)
theorem bo.fix{f g:Nat→aq}{a b k:Nat}(p:bo f g a b)(h:k<a∨b≤k):g k=f k:=by
 obtain⟨σ,_,p1,_,_,_,p5⟩:=p;rw[p5,p1 k h]
set_option maxHeartbeats 4000000 in
theorem IH(N:Nat)(hN:N≤1000000000):∀(d a m b:Nat) (f:Nat→aq),b-a≤d→a<m→m<b→b≤N→gv f a m→gv f m b→
  JJ 203 [.bs (.ext 0) 9 N,nI a,nI m,nI b,.fn 68 [] []] [.rows 9 (cu N f)] (.dE []) [.rows 9 (cu N (ed f a b))]:=by
 intro d;induction d with
 | zero=>intro a m b f h1 h2 h3;omega
 | succ d ih=>
 intro a m b f hd ham hmb hb xf KA;refine JJ.intro Tryz.func203 rfl rfl rfl rfl ?_;refine⟨_,wrap_i64 (by omega) (by omega),?_⟩;refine ab (fun h=>?_) (fun h=>?_)
 ·
  have h:(((m:Int)-a)==1)=true:=h;have Zx:m=a+1:=by
   have:(m:Int)-a=1:=by simpa using h
   omega
  subst Zx;refine⟨[0,1,4,10,11],[.ext 0],fun q S=>∃(i j:Nat),a+1≤i∧i≤j∧j≤b∧q=j-i∧(∀k,a+1≤k→k<i→(f k).le (f a))∧(∀k,j≤k→k<b→(f a).le (f k))∧S=St.mk' [(0,.bs (.ext 0) 9 N),(1,nI a),(4,.fn 68 [] []),(10,nI i),(11,nI j)] [(.ext 0,.rows 9 (cu N f))],
   ⟨_,a+1,b,by omega,by omega,by omega,rfl,fun k k1 k2=>by omega,fun k k1 k2=>by omega,rfl⟩,?_⟩
  rintro q S ⟨i,j,hi,He,hj,rfl,uC,FE,rfl⟩;refine ab (fun h=>?_) (fun h=>?_)
  ·have h:=of_decide_eq_true h;refine⟨((i+j:Nat):Int),by rw[wrap_i64 (by omega) (by omega)];omega,?_⟩;refine⟨_,wrap_u64 (by omega) (by omega),?_⟩;refine⟨(((i+j)/2:Nat):Int),⟨by decide,ug rfl⟩,?_⟩;refine⟨_,wrap_i64 (by omega) (by omega),?_⟩;refine⟨rfl,?_⟩;refine⟨⟨by omega,by omega⟩,?_⟩;refine⟨_,bB (i:=(i+j)/2) rfl (by omega),?_⟩;refine⟨⟨by omega,by omega⟩,?_⟩;refine⟨_,bB (i:=a) rfl (by omega),?_⟩;refine⟨_,yY _ _,?_⟩;refine ab (fun h=>?_) (fun h=>?_)
   ·have h:=of_decide_eq_true h;refine⟨_,wrap_i64 (by omega) (by omega),?_⟩;refine⟨j-((i+j)/2+1),by omega,(i+j)/2+1,j,by omega,by omega,by omega,rfl,fun k k1 k2=>?_,FE,rfl⟩;exact aq.le_trans (KA k ((i+j)/2) k1 (by omega) (by omega)) (aq.le_of_lt h)
   ·have h:=of_decide_eq_false h;refine⟨(i+j)/2-i,by omega,i,(i+j)/2,by omega,by omega,by omega,rfl,uC,fun k k1 k2=>?_,rfl⟩;exact aq.le_trans (aq.lI h) (KA ((i+j)/2) k (by omega) k1 k2)
  ·have h:=of_decide_eq_false h;obtain rfl:i=j:=by omega
   refine⟨[0,10,13],[.ext 0],fun q S=>∃k:Nat,a≤k∧k+1≤i∧q=i-k∧S=St.mk' [(0,.bs (.ext 0) 9 N),(10,nI i),(13,nI k)] [(.ext 0,.rows 9 (cu N (bk f a (a+1) (k+1))))],⟨_,a,by omega,by omega,rfl,by rw[Rf];rfl⟩,?_⟩;rintro q S ⟨k,ph,jJ,rfl,rfl⟩;refine⟨_,wrap_i64 (by omega) (by omega),?_⟩;refine ab (fun h=>?_) (fun h=>?_)
   ·have h:=of_decide_eq_true h;refine⟨rfl,?_⟩;refine⟨_,wrap_i64 (by omega) (by omega),?_⟩;refine⟨_,wrap_i64 (by omega) (by omega),?_⟩;refine⟨⟨by omega,by omega⟩,?_⟩;refine⟨_,bB (i:=k+1) (by omega) (by omega),?_⟩;refine⟨⟨by omega,by omega⟩,?_⟩;refine⟨_,bB (i:=k) rfl (by omega),?_⟩;refine⟨⟨by omega,by omega⟩,?_⟩;refine⟨_,bB (i:=k) rfl (by omega),_,iw,?_⟩;refine⟨⟨by omega,by omega⟩,?_⟩;refine⟨_,bB (i:=k+1) (by omega) (by omega),cu N (bk f a (a+1) (k+2)),?_,?_⟩
    ·rw[show((k:Int)+1).toNat=k+1 by omega,←Uy f a k ph];exact iw
    refine⟨_,wrap_i64 (by omega) (by omega),?_⟩;exact⟨i-(k+1),by omega,k+1,by omega,by omega,rfl,rfl⟩
   ·have h:=of_decide_eq_false h;obtain rfl:i=k+1:=by omega
    rw[←dL (by omega) ((bo.Wp f (by omega) (by omega)).wide (Nat.le_refl _) hj) (Uz KA (by omega) hj uC FE)];exact⟨rfl,rfl⟩
 ·have h:(((m:Int)-a)==1)=false:=h;have Zx:m≠a+1:=by
   intro e;subst e;simp at h;omega
  refine⟨_,wrap_i64 (by omega) (by omega),?_⟩;refine ab (fun h=>?_) (fun h=>?_)
  ·
   have h:(((b:Int)-m)==1)=true:=h;have V6:b=m+1:=by
    have:(b:Int)-m=1:=by simpa using h
    omega
   subst V6;refine⟨[0,2,4,14,15],[.ext 0],fun q S=>∃(i j:Nat),a≤i∧i≤j∧j≤m∧q=j-i∧(∀k,a≤k→k<i→(f k).le (f m))∧(∀k,j≤k→k<m→(f m).le (f k))∧S=St.mk' [(0,.bs (.ext 0) 9 N),(2,nI m),(4,.fn 68 [] []),(14,nI i),(15,nI j)] [(.ext 0,.rows 9 (cu N f))],
    ⟨_,a,m,by omega,by omega,by omega,rfl,fun k k1 k2=>by omega,fun k k1 k2=>by omega,rfl⟩,?_⟩
   rintro q S ⟨i,j,hi,He,hj,rfl,uC,FE,rfl⟩;refine ab (fun h=>?_) (fun h=>?_)
   ·have h:=of_decide_eq_true h;refine⟨((i+j:Nat):Int),by rw[wrap_i64 (by omega) (by omega)];omega,?_⟩;refine⟨_,wrap_u64 (by omega) (by omega),?_⟩;refine⟨(((i+j)/2:Nat):Int),⟨by decide,ug rfl⟩,?_⟩;refine⟨_,wrap_i64 (by omega) (by omega),?_⟩;refine⟨rfl,?_⟩;refine⟨⟨by omega,by omega⟩,?_⟩;refine⟨_,bB (i:=m) rfl (by omega),?_⟩;refine⟨⟨by omega,by omega⟩,?_⟩;refine⟨_,bB (i:=(i+j)/2) rfl (by omega),?_⟩;refine⟨_,yY _ _,?_⟩;refine ab (fun h=>?_) (fun h=>?_)
    ·have h:(!decide ((f m).cmp (f ((i+j)/2))<0))=true:=h;have h:¬(f m).cmp (f ((i+j)/2))<0:=by simpa using h
     refine⟨_,wrap_i64 (by omega) (by omega),?_⟩;refine⟨j-((i+j)/2+1),by omega,(i+j)/2+1,j,by omega,by omega,by omega,rfl,fun k k1 k2=>?_,FE,rfl⟩;exact aq.le_trans (xf k ((i+j)/2) k1 (by omega) (by omega)) (aq.lI h)
    ·have h:(!decide ((f m).cmp (f ((i+j)/2))<0))=false:=h;have h:(f m).cmp (f ((i+j)/2))<0:=by simpa using h
     refine⟨(i+j)/2-i,by omega,i,(i+j)/2,by omega,by omega,by omega,rfl,uC,fun k k1 k2=>?_,rfl⟩;exact aq.le_trans (aq.le_of_lt h) (xf ((i+j)/2) k (by omega) k1 k2)
   ·have h:=of_decide_eq_false h;obtain rfl:i=j:=by omega
    refine⟨[0,14,17],[.ext 0],fun q S=>∃k:Nat,i≤k∧k≤m∧q=k∧S=St.mk' [(0,.bs (.ext 0) 9 N),(14,nI i),(17,nI k)] [(.ext 0,.rows 9 (cu N (bk f k m (m+1))))],⟨_,m,by omega,by omega,rfl,by rw[E8];rfl⟩,?_⟩;rintro q S ⟨k,ph,jJ,rfl,rfl⟩;refine ab (fun h=>?_) (fun h=>?_)
    ·have h:=of_decide_eq_true h;refine⟨rfl,?_⟩;refine⟨_,wrap_i64 (by omega) (by omega),?_⟩;refine⟨_,wrap_i64 (by omega) (by omega),?_⟩;refine⟨⟨by omega,by omega⟩,?_⟩;refine⟨_,bB (i:=q-1) (by omega) (by omega),?_⟩;refine⟨⟨by omega,by omega⟩,?_⟩;refine⟨_,bB (i:=q) rfl (by omega),?_⟩;refine⟨⟨by omega,by omega⟩,?_⟩;refine⟨_,bB (i:=q) rfl (by omega),_,iw,?_⟩;refine⟨⟨by omega,by omega⟩,?_⟩;refine⟨_,bB (i:=q-1) (by omega) (by omega),cu N (bk f (q-1) m (m+1)),?_,?_⟩
     ·rw[show((q:Int)-1).toNat=q-1 by omega,←E9 f q m (by omega) jJ];exact iw
     refine⟨_,wrap_i64 (by omega) (by omega),?_⟩;refine⟨q-1,by omega,q-1,by omega,by omega,rfl,?_⟩;rw[show((q-1:Nat):Int)=(q:Int)-1 by omega];rfl
    ·have h:=of_decide_eq_false h;obtain rfl:i=q:=by omega
     rw[←dL (by omega) ((bo.Wp f jJ (by omega)).wide hi (Nat.le_refl _)) (IF xf hi jJ uC FE)];exact⟨rfl,rfl⟩
  ·have h:(((b:Int)-m)==1)=false:=h;have V6:b≠m+1:=by
    intro e;subst e;simp at h;omega
   obtain⟨mid,X4⟩:∃mid,mid=(a+b)/2:=⟨_,rfl⟩
   refine⟨((a+b:Nat):Int),by rw[wrap_i64 (by omega) (by omega)];omega,?_⟩;refine⟨_,wrap_u64 (by omega) (by omega),?_⟩;refine⟨(mid:Int),⟨by decide,by rw[X4];exact ug rfl⟩,?_⟩;refine⟨_,wrap_i64 (by omega) (by omega),?_⟩;refine⟨((mid+m:Nat):Int),by rw[wrap_i64 (by omega) (by omega)];omega,?_⟩;refine ab (fun h=>?_) (fun h=>?_)
   ·have h:=of_decide_eq_true h;refine⟨((mid+m-b:Nat):Int),by rw[wrap_i64 (by omega) (by omega)];omega,?_⟩;obtain⟨s0,UA⟩:∃s0,s0=mid+m-b:=⟨_,rfl⟩
    obtain⟨r0,UB⟩:∃r0,r0=mid:=⟨_,rfl⟩
    have UC:∀c,s0≤c→c<r0→m≤mid+m-1-c∧mid+m-1-c<b:=fun c k1 k2=>by omega
    refine⟨((mid+m-1:Nat):Int),by rw[wrap_i64 (by omega) (by omega)];omega,?_⟩;refine⟨[0,1,2,3,4,18,19,20,21,22],[.ext 0],fun q S=>∃(s r:Nat),s0≤s∧s≤r∧r≤r0∧q=r-s∧(∀c,s0≤c→c<s→(f c).le (f (mid+m-1-c)))∧(∀c,r≤c→c<r0→(f (mid+m-1-c)).le (f c))∧
     S=St.mk' [(0,.bs (.ext 0) 9 N),(1,nI a),(2,nI m),(3,nI b),(4,.fn 68 [] []),(18,nI mid),(19,nI (mid+m:Nat)),(20,nI s),(21,nI r),(22,nI (mid+m-1:Nat))] [(.ext 0,.rows 9 (cu N f))],⟨_,s0,r0,by omega,by omega,by omega,rfl,fun k k1 k2=>by omega,fun k k1 k2=>by omega,by subst UA;subst UB;rfl⟩,?_⟩
    rintro q S ⟨s,r,hs,hsr,hr,rfl,uC,FE,rfl⟩;refine ab (fun h=>?_) (fun h=>?_)
    ·have h:=of_decide_eq_true h;obtain⟨c,hc⟩:∃c,c=(s+r)/2:=⟨_,rfl⟩
     have Zu:=UC c (by omega) (by omega);refine⟨((s+r:Nat):Int),by rw[wrap_i64 (by omega) (by omega)];omega,?_⟩;refine⟨_,wrap_u64 (by omega) (by omega),?_⟩;refine⟨(c:Int),⟨by decide,by rw[hc];exact ug rfl⟩,?_⟩;refine⟨_,wrap_i64 (by omega) (by omega),?_⟩;refine⟨rfl,?_⟩;refine⟨((mid+m-1-c:Nat):Int),by rw[wrap_i64 (by omega) (by omega)];omega,?_⟩;refine⟨⟨by omega,by omega⟩,?_⟩;refine⟨_,bB (i:=mid+m-1-c) rfl (by omega),?_⟩;refine⟨⟨by omega,by omega⟩,?_⟩;refine⟨_,bB (i:=c) rfl (by omega),?_⟩;refine⟨_,yY _ _,?_⟩;refine ab (fun h=>?_) (fun h=>?_)
     ·have h:(!decide ((f (mid+m-1-c)).cmp (f c)<0))=true:=h;have h:¬(f (mid+m-1-c)).cmp (f c)<0:=by simpa using h
      refine⟨((c+1:Nat):Int),by rw[wrap_i64 (by omega) (by omega)];omega,?_⟩;refine⟨r-(c+1),by omega,c+1,r,by omega,by omega,by omega,rfl,fun k k1 k2=>?_,FE,rfl⟩;have hkb:=UC k (by omega) (by omega);exact aq.le_trans (xf k c (by omega) (by omega) (by omega)) (aq.le_trans (aq.lI h) (KA _ _ (by omega) (by omega) (by omega)))
     ·have h:(!decide ((f (mid+m-1-c)).cmp (f c)<0))=false:=h;have h:(f (mid+m-1-c)).cmp (f c)<0:=by simpa using h
      refine⟨c-s,by omega,s,c,by omega,by omega,by omega,rfl,uC,fun k k1 k2=>?_,rfl⟩;have hkb:=UC k (by omega) (by omega);exact aq.le_trans (KA _ _ (by omega) (by omega) (by omega)) (aq.le_trans (aq.le_of_lt h) (xf c k (by omega) (by omega) (by omega)))
    ·have h:=of_decide_eq_false h;obtain rfl:s=r:=by omega
     obtain⟨en,hen⟩:∃en,en=mid+m-s:=⟨_,rfl⟩
     refine⟨((en:Nat):Int),by rw[wrap_i64 (by omega) (by omega)];omega,?_⟩;have c1:∀i j,a≤i→i<s→en≤j→j<b→(f i).le (f j):=fun i j k1 k2 k3 k4=>by
      by_cases JL:s0<s
      ·have h1:=uC (s-1) (by omega) (by omega);rw[show mid+m-1-(s-1)=en by omega]at h1;exact aq.le_trans (xf i (s-1) k1 (by omega) (by omega)) (aq.le_trans h1 (KA en j (by omega) k3 k4))
      ·omega
     have c2:∀i j,m≤i→i<en→s≤j→j<m→(f i).le (f j):=fun i j k1 k2 k3 k4=>by
      by_cases JL:s<r0
      ·have h1:=FE s (by omega) JL;rw[show mid+m-1-s=en-1 by omega]at h1;exact aq.le_trans (KA i (en-1) k1 (by omega) (by omega)) (aq.le_trans h1 (xf s j (by omega) k3 k4))
      ·omega
     have sF:=A5 (st:=s) (en:=en) (mid:=mid) xf KA (by omega) (by omega) (by omega) (by omega) (by omega) ⟨by omega,by omega⟩ (by omega) c1 c2;have Pc:=(bo.Wp f (show s≤m by omega) (show m≤en by omega)).wide (show a≤s by omega) (show en≤b by omega);refine ab (fun h=>?_) (fun h=>?_)
     ·have h:(bif decide (((s:Nat):Int)<(m:Int))then decide ((m:Int)<((en:Nat):Int))else false)=true:=h;rw[aR,Bool.and_eq_true]at h;have h1:=of_decide_eq_true h.1;have h2:=of_decide_eq_true h.2;obtain⟨sA,sB,sC,sD,hL⟩:=sF;have pA:=Pc;refine⟨_,_,IC N s m en f (by omega) (by omega) (by omega) hN,rfl,?_⟩;refine ab (fun h=>?_) (fun h=>?_)
      ·have h:(bif decide ((a:Int)<((s:Nat):Int))then decide (((s:Nat):Int)<(mid:Int))else false)=true:=h;rw[aR,Bool.and_eq_true]at h;have h1:=of_decide_eq_true h.1;have h2:=of_decide_eq_true h.2;refine⟨_,_,ih a s mid (bk f s m en) (by omega) (by omega) (by omega) (by omega) sA sB,rfl,?_⟩;have oQ:=dK (bk f s m en) (show a≤mid by omega);have ot:∀k,mid≤k→(ed (bk f s m en) a mid) k=(bk f s m en) k:=fun k hk=>bo.fix oQ.1 (.inr hk)
       have y3:gv (ed (bk f s m en) a mid) mid en:=fun i j k1 k2 k3=>by rw[ot i k1,ot j (by omega)];exact sC i j k1 k2 k3
       have y4:gv (ed (bk f s m en) a mid) en b:=fun i j k1 k2 k3=>by rw[ot i (by omega),ot j (by omega)];exact sD i j k1 k2 k3
       refine ab (fun h=>?_) (fun h=>?_)
       ·have h:(bif decide ((mid:Int)<((en:Nat):Int))then decide (((en:Nat):Int)<(b:Int))else false)=true:=h;rw[aR,Bool.and_eq_true]at h;have h1:=of_decide_eq_true h.1;have h2:=of_decide_eq_true h.2;have hS:=dK (ed (bk f s m en) a mid) (show mid≤b by omega);have dC:=gv.join hL oQ.1 oQ.2 hS.1 hS.2 (by omega) (by omega);refine⟨_,_,ih mid en b (ed (bk f s m en) a mid) (by omega) (by omega) (by omega) hb y3 y4,rfl,?_⟩;rw[←dL (by omega) (pA.trans dC.1) dC.2];exact⟨rfl,rfl⟩
       ·have h:(bif decide ((mid:Int)<((en:Nat):Int))then decide (((en:Nat):Int)<(b:Int))else false)=false:=h;have vB:en≤mid∨b≤en:=by
         rw[aR,Bool.and_eq_false_iff]at h;rcases h with h | h
         ·have:=of_decide_eq_false h;omega
         ·have:=of_decide_eq_false h;omega
        have sR:gv (ed (bk f s m en) a mid) mid b:=by
         rcases vB with h | h
         ·exact fun i j k1 k2 k3=>y4 i j (by omega) k2 k3
         ·exact fun i j k1 k2 k3=>y3 i j k1 k2 (by omega)
        have dC:=gv.join hL oQ.1 oQ.2 (bo.refl (ed (bk f s m en) a mid) mid b) sR (by omega) (by omega);rw[←dL (by omega) (pA.trans dC.1) dC.2];exact⟨rfl,rfl⟩
      ·have h:(bif decide ((a:Int)<((s:Nat):Int))then decide (((s:Nat):Int)<(mid:Int))else false)=false:=h;have vB:s≤a∨mid≤s:=by
        rw[aR,Bool.and_eq_false_iff]at h;rcases h with h | h
        ·have:=of_decide_eq_false h;omega
        ·have:=of_decide_eq_false h;omega
       have sL:gv (bk f s m en) a mid:=by
        rcases vB with h | h
        ·exact fun i j k1 k2 k3=>sB i j (by omega) k2 k3
        ·exact fun i j k1 k2 k3=>sA i j k1 k2 (by omega)
       have ot:∀k,mid≤k→(bk f s m en) k=(bk f s m en) k:=fun k hk=>bo.fix (bo.refl (bk f s m en) a mid) (.inr hk)
       have y3:gv (bk f s m en) mid en:=fun i j k1 k2 k3=>by rw[ot i k1,ot j (by omega)];exact sC i j k1 k2 k3
       have y4:gv (bk f s m en) en b:=fun i j k1 k2 k3=>by rw[ot i (by omega),ot j (by omega)];exact sD i j k1 k2 k3
       refine ab (fun h=>?_) (fun h=>?_)
       ·have h:(bif decide ((mid:Int)<((en:Nat):Int))then decide (((en:Nat):Int)<(b:Int))else false)=true:=h;rw[aR,Bool.and_eq_true]at h;have h1:=of_decide_eq_true h.1;have h2:=of_decide_eq_true h.2;have hS:=dK (bk f s m en) (show mid≤b by omega);have dC:=gv.join hL (bo.refl (bk f s m en) a mid) sL hS.1 hS.2 (by omega) (by omega);refine⟨_,_,ih mid en b (bk f s m en) (by omega) (by omega) (by omega) hb y3 y4,rfl,?_⟩;rw[←dL (by omega) (pA.trans dC.1) dC.2];exact⟨rfl,rfl⟩
       ·have h:(bif decide ((mid:Int)<((en:Nat):Int))then decide (((en:Nat):Int)<(b:Int))else false)=false:=h;have vB:en≤mid∨b≤en:=by
         rw[aR,Bool.and_eq_false_iff]at h;rcases h with h | h
         ·have:=of_decide_eq_false h;omega
         ·have:=of_decide_eq_false h;omega
        have sR:gv (bk f s m en) mid b:=by
         rcases vB with h | h
         ·exact fun i j k1 k2 k3=>y4 i j (by omega) k2 k3
         ·exact fun i j k1 k2 k3=>y3 i j k1 k2 (by omega)
        have dC:=gv.join hL (bo.refl (bk f s m en) a mid) sL (bo.refl (bk f s m en) mid b) sR (by omega) (by omega);rw[←dL (by omega) (pA.trans dC.1) dC.2];exact⟨rfl,rfl⟩
     ·have h:(bif decide (((s:Nat):Int)<(m:Int))then decide ((m:Int)<((en:Nat):Int))else false)=false:=h;have vB:m≤s∨en≤m:=by
       rw[aR,Bool.and_eq_false_iff]at h;rcases h with h | h
       ·have:=of_decide_eq_false h;omega
       ·have:=of_decide_eq_false h;omega
      have TL:bk f s m en=f:=by
       rcases vB with h | h
       ·rw[show s=m by omega];exact A7 f m en
       ·rw[show en=m by omega];exact A8 f s m
      rw[TL]at sF Pc;obtain⟨sA,sB,sC,sD,hL⟩:=sF;have pA:=Pc;refine ab (fun h=>?_) (fun h=>?_)
      ·have h:(bif decide ((a:Int)<((s:Nat):Int))then decide (((s:Nat):Int)<(mid:Int))else false)=true:=h;rw[aR,Bool.and_eq_true]at h;have h1:=of_decide_eq_true h.1;have h2:=of_decide_eq_true h.2;refine⟨_,_,ih a s mid f (by omega) (by omega) (by omega) (by omega) sA sB,rfl,?_⟩;have oQ:=dK f (show a≤mid by omega);have ot:∀k,mid≤k→(ed f a mid) k=f k:=fun k hk=>bo.fix oQ.1 (.inr hk)
       have y3:gv (ed f a mid) mid en:=fun i j k1 k2 k3=>by rw[ot i k1,ot j (by omega)];exact sC i j k1 k2 k3
       have y4:gv (ed f a mid) en b:=fun i j k1 k2 k3=>by rw[ot i (by omega),ot j (by omega)];exact sD i j k1 k2 k3
       refine ab (fun h=>?_) (fun h=>?_)
       ·have h:(bif decide ((mid:Int)<((en:Nat):Int))then decide (((en:Nat):Int)<(b:Int))else false)=true:=h;rw[aR,Bool.and_eq_true]at h;have h1:=of_decide_eq_true h.1;have h2:=of_decide_eq_true h.2;have hS:=dK (ed f a mid) (show mid≤b by omega);have dC:=gv.join hL oQ.1 oQ.2 hS.1 hS.2 (by omega) (by omega);refine⟨_,_,ih mid en b (ed f a mid) (by omega) (by omega) (by omega) hb y3 y4,rfl,?_⟩;rw[←dL (by omega) (pA.trans dC.1) dC.2];exact⟨rfl,rfl⟩
       ·have h:(bif decide ((mid:Int)<((en:Nat):Int))then decide (((en:Nat):Int)<(b:Int))else false)=false:=h;have vB:en≤mid∨b≤en:=by
         rw[aR,Bool.and_eq_false_iff]at h;rcases h with h | h
         ·have:=of_decide_eq_false h;omega
         ·have:=of_decide_eq_false h;omega
        have sR:gv (ed f a mid) mid b:=by
         rcases vB with h | h
         ·exact fun i j k1 k2 k3=>y4 i j (by omega) k2 k3
         ·exact fun i j k1 k2 k3=>y3 i j k1 k2 (by omega)
        have dC:=gv.join hL oQ.1 oQ.2 (bo.refl (ed f a mid) mid b) sR (by omega) (by omega);rw[←dL (by omega) (pA.trans dC.1) dC.2];exact⟨rfl,rfl⟩
      ·have h:(bif decide ((a:Int)<((s:Nat):Int))then decide (((s:Nat):Int)<(mid:Int))else false)=false:=h;have vB:s≤a∨mid≤s:=by
        rw[aR,Bool.and_eq_false_iff]at h;rcases h with h | h
        ·have:=of_decide_eq_false h;omega
        ·have:=of_decide_eq_false h;omega
       have sL:gv f a mid:=by
        rcases vB with h | h
        ·exact fun i j k1 k2 k3=>sB i j (by omega) k2 k3
        ·exact fun i j k1 k2 k3=>sA i j k1 k2 (by omega)
       have ot:∀k,mid≤k→f k=f k:=fun k hk=>bo.fix (bo.refl f a mid) (.inr hk)
       have y3:gv f mid en:=fun i j k1 k2 k3=>by rw[ot i k1,ot j (by omega)];exact sC i j k1 k2 k3
       have y4:gv f en b:=fun i j k1 k2 k3=>by rw[ot i (by omega),ot j (by omega)];exact sD i j k1 k2 k3
       refine ab (fun h=>?_) (fun h=>?_)
       ·have h:(bif decide ((mid:Int)<((en:Nat):Int))then decide (((en:Nat):Int)<(b:Int))else false)=true:=h;rw[aR,Bool.and_eq_true]at h;have h1:=of_decide_eq_true h.1;have h2:=of_decide_eq_true h.2;have hS:=dK f (show mid≤b by omega);have dC:=gv.join hL (bo.refl f a mid) sL hS.1 hS.2 (by omega) (by omega);refine⟨_,_,ih mid en b f (by omega) (by omega) (by omega) hb y3 y4,rfl,?_⟩;rw[←dL (by omega) (pA.trans dC.1) dC.2];exact⟨rfl,rfl⟩
       ·have h:(bif decide ((mid:Int)<((en:Nat):Int))then decide (((en:Nat):Int)<(b:Int))else false)=false:=h;have vB:en≤mid∨b≤en:=by
         rw[aR,Bool.and_eq_false_iff]at h;rcases h with h | h
         ·have:=of_decide_eq_false h;omega
         ·have:=of_decide_eq_false h;omega
        have sR:gv f mid b:=by
         rcases vB with h | h
         ·exact fun i j k1 k2 k3=>y4 i j (by omega) k2 k3
         ·exact fun i j k1 k2 k3=>y3 i j k1 k2 (by omega)
        have dC:=gv.join hL (bo.refl f a mid) sL (bo.refl f mid b) sR (by omega) (by omega);rw[←dL (by omega) (pA.trans dC.1) dC.2];exact⟨rfl,rfl⟩
   ·have h:=of_decide_eq_false h;obtain⟨s0,UA⟩:∃s0,s0=a:=⟨_,rfl⟩
    obtain⟨r0,UB⟩:∃r0,r0=m:=⟨_,rfl⟩
    have UC:∀c,s0≤c→c<r0→m≤mid+m-1-c∧mid+m-1-c<b:=fun c k1 k2=>by omega
    refine⟨((mid+m-1:Nat):Int),by rw[wrap_i64 (by omega) (by omega)];omega,?_⟩;refine⟨[0,1,2,3,4,18,19,20,21,22],[.ext 0],fun q S=>∃(s r:Nat),s0≤s∧s≤r∧r≤r0∧q=r-s∧(∀c,s0≤c→c<s→(f c).le (f (mid+m-1-c)))∧(∀c,r≤c→c<r0→(f (mid+m-1-c)).le (f c))∧
     S=St.mk' [(0,.bs (.ext 0) 9 N),(1,nI a),(2,nI m),(3,nI b),(4,.fn 68 [] []),(18,nI mid),(19,nI (mid+m:Nat)),(20,nI s),(21,nI r),(22,nI (mid+m-1:Nat))] [(.ext 0,.rows 9 (cu N f))],⟨_,s0,r0,by omega,by omega,by omega,rfl,fun k k1 k2=>by omega,fun k k1 k2=>by omega,by subst UA;subst UB;rfl⟩,?_⟩
    rintro q S ⟨s,r,hs,hsr,hr,rfl,uC,FE,rfl⟩;refine ab (fun h=>?_) (fun h=>?_)
    ·have h:=of_decide_eq_true h;obtain⟨c,hc⟩:∃c,c=(s+r)/2:=⟨_,rfl⟩
     have Zu:=UC c (by omega) (by omega);refine⟨((s+r:Nat):Int),by rw[wrap_i64 (by omega) (by omega)];omega,?_⟩;refine⟨_,wrap_u64 (by omega) (by omega),?_⟩;refine⟨(c:Int),⟨by decide,by rw[hc];exact ug rfl⟩,?_⟩;refine⟨_,wrap_i64 (by omega) (by omega),?_⟩;refine⟨rfl,?_⟩;refine⟨((mid+m-1-c:Nat):Int),by rw[wrap_i64 (by omega) (by omega)];omega,?_⟩;refine⟨⟨by omega,by omega⟩,?_⟩;refine⟨_,bB (i:=mid+m-1-c) rfl (by omega),?_⟩;refine⟨⟨by omega,by omega⟩,?_⟩;refine⟨_,bB (i:=c) rfl (by omega),?_⟩;refine⟨_,yY _ _,?_⟩;refine ab (fun h=>?_) (fun h=>?_)
     ·have h:(!decide ((f (mid+m-1-c)).cmp (f c)<0))=true:=h;have h:¬(f (mid+m-1-c)).cmp (f c)<0:=by simpa using h
      refine⟨((c+1:Nat):Int),by rw[wrap_i64 (by omega) (by omega)];omega,?_⟩;refine⟨r-(c+1),by omega,c+1,r,by omega,by omega,by omega,rfl,fun k k1 k2=>?_,FE,rfl⟩;have hkb:=UC k (by omega) (by omega);exact aq.le_trans (xf k c (by omega) (by omega) (by omega)) (aq.le_trans (aq.lI h) (KA _ _ (by omega) (by omega) (by omega)))
     ·have h:(!decide ((f (mid+m-1-c)).cmp (f c)<0))=false:=h;have h:(f (mid+m-1-c)).cmp (f c)<0:=by simpa using h
      refine⟨c-s,by omega,s,c,by omega,by omega,by omega,rfl,uC,fun k k1 k2=>?_,rfl⟩;have hkb:=UC k (by omega) (by omega);exact aq.le_trans (KA _ _ (by omega) (by omega) (by omega)) (aq.le_trans (aq.le_of_lt h) (xf c k (by omega) (by omega) (by omega)))
    ·have h:=of_decide_eq_false h;obtain rfl:s=r:=by omega
     obtain⟨en,hen⟩:∃en,en=mid+m-s:=⟨_,rfl⟩
     refine⟨((en:Nat):Int),by rw[wrap_i64 (by omega) (by omega)];omega,?_⟩;have c1:∀i j,a≤i→i<s→en≤j→j<b→(f i).le (f j):=fun i j k1 k2 k3 k4=>by
      by_cases JL:s0<s
      ·have h1:=uC (s-1) (by omega) (by omega);rw[show mid+m-1-(s-1)=en by omega]at h1;exact aq.le_trans (xf i (s-1) k1 (by omega) (by omega)) (aq.le_trans h1 (KA en j (by omega) k3 k4))
      ·omega
     have c2:∀i j,m≤i→i<en→s≤j→j<m→(f i).le (f j):=fun i j k1 k2 k3 k4=>by
      by_cases JL:s<r0
      ·have h1:=FE s (by omega) JL;rw[show mid+m-1-s=en-1 by omega]at h1;exact aq.le_trans (KA i (en-1) k1 (by omega) (by omega)) (aq.le_trans h1 (xf s j (by omega) k3 k4))
      ·omega
     have sF:=A5 (st:=s) (en:=en) (mid:=mid) xf KA (by omega) (by omega) (by omega) (by omega) (by omega) ⟨by omega,by omega⟩ (by omega) c1 c2;have Pc:=(bo.Wp f (show s≤m by omega) (show m≤en by omega)).wide (show a≤s by omega) (show en≤b by omega);refine ab (fun h=>?_) (fun h=>?_)
     ·have h:(bif decide (((s:Nat):Int)<(m:Int))then decide ((m:Int)<((en:Nat):Int))else false)=true:=h;rw[aR,Bool.and_eq_true]at h;have h1:=of_decide_eq_true h.1;have h2:=of_decide_eq_true h.2;obtain⟨sA,sB,sC,sD,hL⟩:=sF;have pA:=Pc;refine⟨_,_,IC N s m en f (by omega) (by omega) (by omega) hN,rfl,?_⟩;refine ab (fun h=>?_) (fun h=>?_)
      ·have h:(bif decide ((a:Int)<((s:Nat):Int))then decide (((s:Nat):Int)<(mid:Int))else false)=true:=h;rw[aR,Bool.and_eq_true]at h;have h1:=of_decide_eq_true h.1;have h2:=of_decide_eq_true h.2;refine⟨_,_,ih a s mid (bk f s m en) (by omega) (by omega) (by omega) (by omega) sA sB,rfl,?_⟩;have oQ:=dK (bk f s m en) (show a≤mid by omega);have ot:∀k,mid≤k→(ed (bk f s m en) a mid) k=(bk f s m en) k:=fun k hk=>bo.fix oQ.1 (.inr hk)
       have y3:gv (ed (bk f s m en) a mid) mid en:=fun i j k1 k2 k3=>by rw[ot i k1,ot j (by omega)];exact sC i j k1 k2 k3
       have y4:gv (ed (bk f s m en) a mid) en b:=fun i j k1 k2 k3=>by rw[ot i (by omega),ot j (by omega)];exact sD i j k1 k2 k3
       refine ab (fun h=>?_) (fun h=>?_)
       ·have h:(bif decide ((mid:Int)<((en:Nat):Int))then decide (((en:Nat):Int)<(b:Int))else false)=true:=h;rw[aR,Bool.and_eq_true]at h;have h1:=of_decide_eq_true h.1;have h2:=of_decide_eq_true h.2;have hS:=dK (ed (bk f s m en) a mid) (show mid≤b by omega);have dC:=gv.join hL oQ.1 oQ.2 hS.1 hS.2 (by omega) (by omega);refine⟨_,_,ih mid en b (ed (bk f s m en) a mid) (by omega) (by omega) (by omega) hb y3 y4,rfl,?_⟩;rw[←dL (by omega) (pA.trans dC.1) dC.2];exact⟨rfl,rfl⟩
       ·have h:(bif decide ((mid:Int)<((en:Nat):Int))then decide (((en:Nat):Int)<(b:Int))else false)=false:=h;have vB:en≤mid∨b≤en:=by
         rw[aR,Bool.and_eq_false_iff]at h;rcases h with h | h
         ·have:=of_decide_eq_false h;omega
         ·have:=of_decide_eq_false h;omega
        have sR:gv (ed (bk f s m en) a mid) mid b:=by
         rcases vB with h | h
         ·exact fun i j k1 k2 k3=>y4 i j (by omega) k2 k3
         ·exact fun i j k1 k2 k3=>y3 i j k1 k2 (by omega)
        have dC:=gv.join hL oQ.1 oQ.2 (bo.refl (ed (bk f s m en) a mid) mid b) sR (by omega) (by omega);rw[←dL (by omega) (pA.trans dC.1) dC.2];exact⟨rfl,rfl⟩
      ·have h:(bif decide ((a:Int)<((s:Nat):Int))then decide (((s:Nat):Int)<(mid:Int))else false)=false:=h;have vB:s≤a∨mid≤s:=by
        rw[aR,Bool.and_eq_false_iff]at h;rcases h with h | h
        ·have:=of_decide_eq_false h;omega
        ·have:=of_decide_eq_false h;omega
       have sL:gv (bk f s m en) a mid:=by
        rcases vB with h | h
        ·exact fun i j k1 k2 k3=>sB i j (by omega) k2 k3
        ·exact fun i j k1 k2 k3=>sA i j k1 k2 (by omega)
       have ot:∀k,mid≤k→(bk f s m en) k=(bk f s m en) k:=fun k hk=>bo.fix (bo.refl (bk f s m en) a mid) (.inr hk)
       have y3:gv (bk f s m en) mid en:=fun i j k1 k2 k3=>by rw[ot i k1,ot j (by omega)];exact sC i j k1 k2 k3
       have y4:gv (bk f s m en) en b:=fun i j k1 k2 k3=>by rw[ot i (by omega),ot j (by omega)];exact sD i j k1 k2 k3
       refine ab (fun h=>?_) (fun h=>?_)
       ·have h:(bif decide ((mid:Int)<((en:Nat):Int))then decide (((en:Nat):Int)<(b:Int))else false)=true:=h;rw[aR,Bool.and_eq_true]at h;have h1:=of_decide_eq_true h.1;have h2:=of_decide_eq_true h.2;have hS:=dK (bk f s m en) (show mid≤b by omega);have dC:=gv.join hL (bo.refl (bk f s m en) a mid) sL hS.1 hS.2 (by omega) (by omega);refine⟨_,_,ih mid en b (bk f s m en) (by omega) (by omega) (by omega) hb y3 y4,rfl,?_⟩;rw[←dL (by omega) (pA.trans dC.1) dC.2];exact⟨rfl,rfl⟩
       ·have h:(bif decide ((mid:Int)<((en:Nat):Int))then decide (((en:Nat):Int)<(b:Int))else false)=false:=h;have vB:en≤mid∨b≤en:=by
         rw[aR,Bool.and_eq_false_iff]at h;rcases h with h | h
         ·have:=of_decide_eq_false h;omega
         ·have:=of_decide_eq_false h;omega
        have sR:gv (bk f s m en) mid b:=by
         rcases vB with h | h
         ·exact fun i j k1 k2 k3=>y4 i j (by omega) k2 k3
         ·exact fun i j k1 k2 k3=>y3 i j k1 k2 (by omega)
        have dC:=gv.join hL (bo.refl (bk f s m en) a mid) sL (bo.refl (bk f s m en) mid b) sR (by omega) (by omega);rw[←dL (by omega) (pA.trans dC.1) dC.2];exact⟨rfl,rfl⟩
     ·have h:(bif decide (((s:Nat):Int)<(m:Int))then decide ((m:Int)<((en:Nat):Int))else false)=false:=h;have vB:m≤s∨en≤m:=by
       rw[aR,Bool.and_eq_false_iff]at h;rcases h with h | h
       ·have:=of_decide_eq_false h;omega
       ·have:=of_decide_eq_false h;omega
      have TL:bk f s m en=f:=by
       rcases vB with h | h
       ·rw[show s=m by omega];exact A7 f m en
       ·rw[show en=m by omega];exact A8 f s m
      rw[TL]at sF Pc;obtain⟨sA,sB,sC,sD,hL⟩:=sF;have pA:=Pc;refine ab (fun h=>?_) (fun h=>?_)
      ·have h:(bif decide ((a:Int)<((s:Nat):Int))then decide (((s:Nat):Int)<(mid:Int))else false)=true:=h;rw[aR,Bool.and_eq_true]at h;have h1:=of_decide_eq_true h.1;have h2:=of_decide_eq_true h.2;refine⟨_,_,ih a s mid f (by omega) (by omega) (by omega) (by omega) sA sB,rfl,?_⟩;have oQ:=dK f (show a≤mid by omega);have ot:∀k,mid≤k→(ed f a mid) k=f k:=fun k hk=>bo.fix oQ.1 (.inr hk)
       have y3:gv (ed f a mid) mid en:=fun i j k1 k2 k3=>by rw[ot i k1,ot j (by omega)];exact sC i j k1 k2 k3
       have y4:gv (ed f a mid) en b:=fun i j k1 k2 k3=>by rw[ot i (by omega),ot j (by omega)];exact sD i j k1 k2 k3
       refine ab (fun h=>?_) (fun h=>?_)
       ·have h:(bif decide ((mid:Int)<((en:Nat):Int))then decide (((en:Nat):Int)<(b:Int))else false)=true:=h;rw[aR,Bool.and_eq_true]at h;have h1:=of_decide_eq_true h.1;have h2:=of_decide_eq_true h.2;have hS:=dK (ed f a mid) (show mid≤b by omega);have dC:=gv.join hL oQ.1 oQ.2 hS.1 hS.2 (by omega) (by omega);refine⟨_,_,ih mid en b (ed f a mid) (by omega) (by omega) (by omega) hb y3 y4,rfl,?_⟩;rw[←dL (by omega) (pA.trans dC.1) dC.2];exact⟨rfl,rfl⟩
       ·have h:(bif decide ((mid:Int)<((en:Nat):Int))then decide (((en:Nat):Int)<(b:Int))else false)=false:=h;have vB:en≤mid∨b≤en:=by
         rw[aR,Bool.and_eq_false_iff]at h;rcases h with h | h
         ·have:=of_decide_eq_false h;omega
         ·have:=of_decide_eq_false h;omega
        have sR:gv (ed f a mid) mid b:=by
         rcases vB with h | h
         ·exact fun i j k1 k2 k3=>y4 i j (by omega) k2 k3
         ·exact fun i j k1 k2 k3=>y3 i j k1 k2 (by omega)
        have dC:=gv.join hL oQ.1 oQ.2 (bo.refl (ed f a mid) mid b) sR (by omega) (by omega);rw[←dL (by omega) (pA.trans dC.1) dC.2];exact⟨rfl,rfl⟩
      ·have h:(bif decide ((a:Int)<((s:Nat):Int))then decide (((s:Nat):Int)<(mid:Int))else false)=false:=h;have vB:s≤a∨mid≤s:=by
        rw[aR,Bool.and_eq_false_iff]at h;rcases h with h | h
        ·have:=of_decide_eq_false h;omega
        ·have:=of_decide_eq_false h;omega
       have sL:gv f a mid:=by
        rcases vB with h | h
        ·exact fun i j k1 k2 k3=>sB i j (by omega) k2 k3
        ·exact fun i j k1 k2 k3=>sA i j k1 k2 (by omega)
       have ot:∀k,mid≤k→f k=f k:=fun k hk=>bo.fix (bo.refl f a mid) (.inr hk)
       have y3:gv f mid en:=fun i j k1 k2 k3=>by rw[ot i k1,ot j (by omega)];exact sC i j k1 k2 k3
       have y4:gv f en b:=fun i j k1 k2 k3=>by rw[ot i (by omega),ot j (by omega)];exact sD i j k1 k2 k3
       refine ab (fun h=>?_) (fun h=>?_)
       ·have h:(bif decide ((mid:Int)<((en:Nat):Int))then decide (((en:Nat):Int)<(b:Int))else false)=true:=h;rw[aR,Bool.and_eq_true]at h;have h1:=of_decide_eq_true h.1;have h2:=of_decide_eq_true h.2;have hS:=dK f (show mid≤b by omega);have dC:=gv.join hL (bo.refl f a mid) sL hS.1 hS.2 (by omega) (by omega);refine⟨_,_,ih mid en b f (by omega) (by omega) (by omega) hb y3 y4,rfl,?_⟩;rw[←dL (by omega) (pA.trans dC.1) dC.2];exact⟨rfl,rfl⟩
       ·have h:(bif decide ((mid:Int)<((en:Nat):Int))then decide (((en:Nat):Int)<(b:Int))else false)=false:=h;have vB:en≤mid∨b≤en:=by
         rw[aR,Bool.and_eq_false_iff]at h;rcases h with h | h
         ·have:=of_decide_eq_false h;omega
         ·have:=of_decide_eq_false h;omega
        have sR:gv f mid b:=by
         rcases vB with h | h
         ·exact fun i j k1 k2 k3=>y4 i j (by omega) k2 k3
         ·exact fun i j k1 k2 k3=>y3 i j k1 k2 (by omega)
        have dC:=gv.join hL (bo.refl f a mid) sL (bo.refl f mid b) sR (by omega) (by omega);rw[←dL (by omega) (pA.trans dC.1) dC.2];exact⟨rfl,rfl⟩
open Go.Proofs
theorem np{d p a:Nat}(h1:d∣p)(h2:d∣a)(h:p<a):p+d≤a:=by
 obtain⟨x,rfl⟩:=h1;obtain⟨y,rfl⟩:=h2;have hxy:x<y:=Nat.lt_of_mul_lt_mul_left h
 calc d*x+d=d*(x+1):=by rw[Nat.mul_succ]
  _≤d*y:=Nat.mul_le_mul_left d hxy
theorem gv.fix{f g:Nat→aq}{a b p q:Nat}(hp:bo f g a b)(hs:gv f p q)(h:q≤a∨b≤p):gv g p q:=fun i j h1 h2 h3=>by
 rw[hp.fix (k:=i) (by omega),hp.fix (k:=j) (by omega)];exact hs i j h1 h2 h3
set_option maxHeartbeats 2000000 in
theorem Rg(N:Nat)(f:Nat→aq)(hN:N≤1000000000):JJ 172 [.bs (.ext 0) 9 N,nI N,.fn 68 [] []] [.rows 9 (cu N f)] (.dE []) [.rows 9 (cu N (ed f 0 N))]:=by
 refine JJ.intro Tryz.func172 rfl rfl rfl rfl ?_;refine⟨[0,1,2,6,7,8],[.ext 0],fun q S=>∃(a:Nat) (g:Nat→aq),20∣a∧a≤N∧q=N-a∧bo f g 0 N∧(∀p,20∣p→p<a→gv g p (min (p+20) N))∧S=St.mk' [(0,.bs (.ext 0) 9 N),(1,nI N),(2,.fn 68 [] []),(6,nI 20),(7,nI a),(8,nI ((a+20:Nat):Int))] [(.ext 0,.rows 9 (cu N g))],
  ⟨_,0,f,⟨0,rfl⟩,by omega,rfl,.refl _ _ _,fun p _ h=>by omega,rfl⟩,?_⟩
 rintro q S ⟨a,g,Lg,haN,rfl,hp,Hf,rfl⟩;refine ab (fun h=>?_) (fun h=>?_)
 ·have h:=of_decide_eq_true h;refine⟨_,_,IG N a (a+20) g (by omega) (by omega) hN,rfl,?_⟩;have hS:=dK g (show a≤a+20 by omega);refine⟨((a+20+20:Nat):Int),by rw[wrap_i64 (by omega) (by omega)];omega,?_⟩;refine⟨N-(a+20),by omega,a+20,_,Nat.dvd_add Lg ⟨1,rfl⟩,by omega,rfl,hp.trans (hS.1.wide (by omega) (by omega)),fun p Fa SG=>?_,rfl⟩;by_cases aN:p<a
  ·have:=np Fa Lg aN;exact(Hf p Fa aN).fix hS.1 (by omega)
  ·have:p=a:=by
    rcases Nat.lt_or_ge a p with h2 | h2
    ·have:=np Lg Fa h2;omega
    ·omega
   subst this;exact fun i j h1 h2 h3=>hS.2 i j h1 h2 (by omega)
 ·have h:=of_decide_eq_false h;refine⟨_,_,IG N a N g (by omega) (by omega) hN,rfl,?_⟩;have hS:=dK g haN;obtain⟨g1,XJ⟩:∃g1,g1=ed g a N:=⟨_,rfl⟩
  rw[←XJ]at hS ⊢;have iH:bo f g1 0 N:=hp.trans (hS.1.wide (by omega) (Nat.le_refl _));have Rh:∀p,20∣p→gv g1 p (min (p+20) N):=fun p Fa=>by
   by_cases aN:p<a
   ·have:=np Fa Lg aN;exact(Hf p Fa aN).fix hS.1 (by omega)
   ·exact fun i j h1 h2 h3=>hS.2 i j (by omega) h2 (by omega)
  clear hp Hf hS XJ;refine⟨[0,1,2,6],[.ext 0],fun q S=>∃(bs:Nat) (g:Nat→aq),20≤bs∧bs≤2*N+20∧q=N-bs∧bo f g 0 N∧(∀p,bs∣p→gv g p (min (p+bs) N))∧S=St.mk' [(0,.bs (.ext 0) 9 N),(1,nI N),(2,.fn 68 [] []),(6,nI bs)] [(.ext 0,.rows 9 (cu N g))],
   ⟨_,20,g1,by omega,by omega,rfl,iH,Rh,rfl⟩,?_⟩
  rintro q S ⟨bs,g,ny,afn,rfl,hp,Rh,rfl⟩;refine ab (fun h=>?_) (fun h=>?_)
  ·have aN:=of_decide_eq_true h;refine⟨((2*bs:Nat):Int),by rw[wrap_i64 (by omega) (by omega)];omega,?_⟩;refine⟨[0,1,2,6,7,8],[.ext 0],fun q S=>∃(a:Nat) (g':Nat→aq),(2*bs)∣a∧a≤N∧q=N-a∧bo f g' 0 N∧(∀p,(2*bs)∣p→p<a→gv g' p (min (p+2*bs) N))∧(∀p,bs∣p→a≤p→gv g' p (min (p+bs) N))∧
    S=St.mk' [(0,.bs (.ext 0) 9 N),(1,nI N),(2,.fn 68 [] []),(6,nI bs),(7,nI a),(8,nI ((a+2*bs:Nat):Int))] [(.ext 0,.rows 9 (cu N g'))],
    ⟨_,0,g,⟨0,rfl⟩,by omega,rfl,hp,fun p _ h=>by omega,fun p h1 _=>Rh p h1,by rw[Nat.zero_add];rfl⟩,?_⟩
   rintro q S ⟨a,g',Lg,haN,rfl,hp,Hf,UD,rfl⟩;have hdb:bs∣a:=Nat.dvd_trans ⟨2,by omega⟩ Lg;have hA:gv g' a (min (a+bs) N):=UD a hdb (Nat.le_refl _);have hB:gv g' (a+bs) (min (a+bs+bs) N):=UD (a+bs) (Nat.dvd_add hdb ⟨1,by omega⟩) (by omega);refine ab (fun h=>?_) (fun h=>?_)
   ·have h:=of_decide_eq_true h;refine⟨((a+bs:Nat):Int),by rw[wrap_i64 (by omega) (by omega)];omega,?_⟩;refine⟨_,_,IH N hN (a+2*bs-a) a (a+bs) (a+2*bs) g' (Nat.le_refl _) (by omega) (by omega) (by omega) (fun i j h1 h2 h3=>hA i j h1 h2 (by omega)) (fun i j h1 h2 h3=>hB i j h1 h2 (by omega)),rfl,?_⟩;have hS:=dK g' (show a≤a+2*bs by omega);refine⟨((2*bs:Nat):Int),by rw[wrap_i64 (by omega) (by omega)];omega,?_⟩;refine⟨((a+2*bs+2*bs:Nat):Int),by rw[wrap_i64 (by omega) (by omega)];omega,?_⟩;refine⟨N-(a+2*bs),by omega,a+2*bs,_,Nat.dvd_add Lg ⟨1,by omega⟩,by omega,rfl,hp.trans (hS.1.wide (by omega) (by omega)),fun p Fa SG=>?_,fun p Fa SG=>?_,rfl⟩
    ·by_cases fl:p<a
     ·have:=np Fa Lg fl;exact(Hf p Fa fl).fix hS.1 (by omega)
     ·have:p=a:=by
       rcases Nat.lt_or_ge a p with h2 | h2
       ·have:=np Lg Fa h2;omega
       ·omega
      subst this;exact fun i j h1 h2 h3=>hS.2 i j h1 h2 (by omega)
    ·exact(UD p Fa (by omega)).fix hS.1 (by omega)
   ·have h:=of_decide_eq_false h;refine⟨((a+bs:Nat):Int),by rw[wrap_i64 (by omega) (by omega)];omega,?_⟩;have fin:∀g2,bo f g2 0 N→(∀p,(2*bs)∣p→p<a→gv g2 p (min (p+2*bs) N))→gv g2 a N→ ∀p,(2*bs)∣p→gv g2 p (min (p+2*bs) N):=fun g2 _ h1 h2 p Fa=>by
     by_cases fl:p<a
     ·exact h1 p Fa fl
     ·exact fun i j k1 k2 k3=>h2 i j (by omega) k2 (by omega)
    refine ab (fun h=>?_) (fun h=>?_)
    ·have h:=of_decide_eq_true h;refine⟨_,_,IH N hN (N-a) a (a+bs) N g' (Nat.le_refl _) (by omega) (by omega) (by omega) (fun i j h1 h2 h3=>hA i j h1 h2 (by omega)) (fun i j h1 h2 h3=>hB i j h1 h2 (by omega)),rfl,?_⟩;have hS:=dK g' haN;refine⟨((bs*2:Nat):Int),by rw[wrap_i64 (by omega) (by omega)];omega,?_⟩;refine⟨N-bs*2,by omega,bs*2,_,by omega,by omega,rfl,hp.trans (hS.1.wide (by omega) (Nat.le_refl _)),?_,rfl⟩;rw[Nat.mul_comm bs 2];refine fin _ (hp.trans (hS.1.wide (by omega) (Nat.le_refl _))) (fun p Fa SG=>?_) hS.2;have:=np Fa Lg SG;exact(Hf p Fa SG).fix hS.1 (by omega)
    ·have h:=of_decide_eq_false h;refine⟨((bs*2:Nat):Int),by rw[wrap_i64 (by omega) (by omega)];omega,?_⟩;refine⟨N-bs*2,by omega,bs*2,g',by omega,by omega,rfl,hp,?_,rfl⟩;rw[Nat.mul_comm bs 2];exact fin _ hp Hf (fun i j h1 h2 h3=>hA i j h1 h2 (by omega))
  ·have h:=of_decide_eq_false h;have hs:=Rh 0 ⟨0,by omega⟩;rw[show min (0+bs) N=N by omega]at hs;rw[←dL (by omega) hp hs];exact⟨rfl,rfl⟩
open Go.Proofs
theorem Ri(N:Nat)(f:Nat→aq)(hN:N≤1000000000):JJ 120 [.bs (.ext 0) 9 N,.fn 68 [] []] [.rows 9 (cu N f)] (.dE []) [.rows 9 (cu N (ed f 0 N))]:=by
 refine JJ.intro Tryz.func120 rfl rfl rfl rfl ?_;refine⟨_,rfl,?_⟩;refine⟨_,_,Rg N f hN,rfl,?_⟩;exact⟨rfl,rfl⟩
theorem NM:JJ 202 [.p (.sl 9 []),nI 0,nI 0,.fn 68 [] []] [] (.dE []) []:=by
 refine JJ.intro Tryz.func202 rfl rfl rfl rfl ?_;refine⟨1,by decide,?_⟩;refine⟨[0,1,2,3,8],[],fun q S=>S=St.mk' [(0,.p (.sl 9 [])),(1,nI 0),(2,nI 0),(3,.fn 68 [] []),(8,nI 1)] [],⟨0,rfl⟩,?_⟩;rintro q S rfl;refine ab (fun h=>by cases h) (fun h=>?_);exact⟨rfl,rfl⟩
theorem NN:JJ 172 [.p (.sl 9 []),nI 0,.fn 68 [] []] [] (.dE []) []:=by
 refine JJ.intro Tryz.func172 rfl rfl rfl rfl ?_;refine⟨[0,1,2,6,7,8],[],fun q S=>S=St.mk' [(0,.p (.sl 9 [])),(1,nI 0),(2,.fn 68 [] []),(6,nI 20),(7,nI 0),(8,nI 20)] [],⟨0,rfl⟩,?_⟩;rintro q S rfl;refine ab (fun h=>by cases h) (fun h=>?_);refine⟨_,NM,?_⟩;refine⟨[0,1,2,6],[],fun q S=>S=St.mk' [(0,.p (.sl 9 [])),(1,nI 0),(2,.fn 68 [] []),(6,nI 20)] [],⟨0,rfl⟩,?_⟩;rintro q S rfl;refine ab (fun h=>by cases h) (fun h=>?_);exact⟨rfl,rfl⟩
theorem NO:JJ 120 [.p (.sl 9 []),.fn 68 [] []] [] (.dE []) []:=by
 refine JJ.intro Tryz.func120 rfl rfl rfl rfl ?_;refine⟨_,rfl,?_⟩;refine⟨_,NN,?_⟩;exact⟨rfl,rfl⟩
theorem Fb(l:List aq):cu l.length (fun i=>l.getD i default)=l.map aq.enc:=by
 apply List.ext_getElem?;intro i;by_cases hi:i<l.length
 ·rw[oo hi,List.getElem?_map,List.getElem?_eq_getElem hi,List.getD_eq_getElem?_getD,List.getElem?_eq_getElem hi];all_goals rfl
 ·rw[List.getElem?_eq_none (by rw[om];omega),List.getElem?_eq_none (by simp;omega)]
theorem Hg(N:Nat)(f:Nat→aq):cu N f=(oq f 0 N).map aq.enc:=by
 unfold cu oq;rw[List.map_map];exact List.map_congr_left (fun i _=>by simp)
noncomputable def wF(l:List aq):List aq:=oq (ed (fun i=>l.getD i default) 0 l.length) 0 l.length
theorem NP(l:List aq):oq (fun i=>l.getD i default) 0 l.length=l:=by
 unfold oq;apply List.ext_getElem?;intro i;by_cases hi:i<l.length
 ·rw[List.getElem?_map,List.getElem?_range (by omega),List.getElem?_eq_getElem hi];simp[List.getD_eq_getElem?_getD,List.getElem?_eq_getElem hi]
 ·rw[List.getElem?_eq_none (by simp;omega),List.getElem?_eq_none (by omega)]
theorem y5(l:List aq):(wF l).Perm l:=by
 have:=y0 (dK (fun i=>l.getD i default) (Nat.zero_le l.length)).1;rw[NP]at this;exact this
theorem CT(l:List aq):(wF l).Pairwise aq.le:=sE (dK (fun i=>l.getD i default) (Nat.zero_le l.length)).2
theorem NQ{l m:List aq}(h:m.Perm l)(s:m.Pairwise aq.le):wF l=m:=
 List.Perm.eq_of_pairwise (fun x y _ _ h1 h2=>aq.le_antisymm h1 h2) (CT l) s ((y5 l).trans h.symm)
theorem KB(l:List aq):∀r∈l.map aq.enc,∀v∈r,Cs v=true:=by
 intro r hr v hv;obtain⟨n,_,rfl⟩:=List.mem_map.1 hr;simp[aq.enc]at hv;rcases hv with h | h | h | h | h | h | h | h | h<;>(subst h;rfl)
theorem UE(l:List aq)(hl:l.length≤1000000000):JJ 66 [.fn 121 [] [.ro 1 [.sl 9 (l.map aq.enc)] 0],.fn 68 [] []] [] (.p (.sl 9 ((wF l).map aq.enc))) []:=by
 by_cases dA:l= []
 ·subst dA;refine JJ.yk Tryz.func66 rfl rfl rfl rfl ?_;refine⟨_,IB [] (by simp),?_⟩;refine⟨_,NO,?_⟩;have e:wF []= []:=List.Perm.eq_nil (y5 []);rw[e];exact⟨rfl,rfl⟩
 ·refine XX.intro Tryz.func66 rfl rfl rfl rfl ?_;refine Or.inr (Or.inl ?_);refine⟨_,_,IB l hl,⟨fun e=>dA (List.map_eq_nil_iff.1 e),KB l⟩,?_⟩;refine Or.inl ?_;refine⟨_,_,(by
   have:=Ri l.length (fun i=>l.getD i default) hl;rw[Fb,Hg]at this;have e:(l.map aq.enc).length=l.length:=by simp
   rw[e];exact this),rfl,?_⟩
  refine⟨?_,rfl,rfl⟩;simp[oq]
theorem UF(l:List aq)(hl:l.length≤1000000000):JJ 34 [.p (.sl 9 (l.map aq.enc))] [] (.p (.sl 9 ((wF l).map aq.enc))) []:=by
 refine JJ.yk Tryz.func34 rfl rfl rfl rfl ?_;refine⟨_,Uw l,?_⟩;refine⟨_,UE l hl,?_⟩;exact⟨rfl,rfl⟩
open Go.Proofs
def qj(h:List (aH×Nat)):List (List PV×List PV):=h.map fun e=>(e.1.enc,[.int .i64 (e.2:Int)])
def eL:List (aH×Nat)→aH→Option Nat
 | [],_=>none
 | e::r,p=>if p=e.1 then some e.2 else eL r p
def pf:List (aH×Nat)→aH→Nat→List (aH×Nat)
 | [],p,k=> [(p,k)]
 | e::r,p,k=>if p=e.1 then(p,k)::r else e::pf r p k
theorem y6(p q:aH):bL p.enc q.enc=some (decide (p=q)):=by
 cases p with
 | mk a b c=>
  cases q with
  | mk x y z=>
   have:decide ((⟨a,b,c⟩:aH)=⟨x,y,z⟩)=((a==x)&&((b==y)&&(c==z))):=by
    rw[Bool.eq_iff_iff];simp[aH.mk.injEq]
   rw[this];all_goals rfl
theorem CU(p:aH):∀h:List (aH×Nat),dS p.enc (qj h)=(eL h p).map fun k=> [PV.int .i64 (k:Int)]
 | []=>rfl
 | e::r=>by
  show(match bL p.enc e.1.enc with | some true=>some [PV.int .i64 (e.2:Int)] | _=>dS p.enc (qj r))=_;rw[y6];unfold eL;by_cases h:p=e.1
  ·rw[decide_eq_true h,if_pos h];rfl
  ·rw[decide_eq_false h,if_neg h];exact CU p r
theorem CV(p:aH)(k:Nat):∀h:List (aH×Nat),o6 p.enc [.int .i64 (k:Int)] (qj h)=qj (pf h p k)
 | []=>rfl
 | e::r=>by
  show(match bL p.enc e.1.enc with | some true=>(p.enc,[PV.int .i64 (k:Int)])::qj r | _=>(e.1.enc,[PV.int .i64 (e.2:Int)])::o6 p.enc [.int .i64 (k:Int)] (qj r))=_;rw[y6];unfold pf;by_cases h:p=e.1
  ·rw[decide_eq_true h,if_pos h];rfl
  ·rw[decide_eq_false h,if_neg h,CV p k r];rfl
theorem uh(p:aH)(h:List (aH×Nat)):gP p.enc (qj h):=by
 intro e he;obtain⟨x,_,rfl⟩:=List.mem_map.1 he;exact⟨_,y6 p x.1⟩
def nq(p:aH):Int:=if p.ok then p.num else 0
def dY(first:aq)(down on:Int)(id:cP)(p:aH)(i:Nat):aq:= {first with On:=on,Number:=nq p-down,Event:=id,Head:=i}
def cC(n:aq)(off:Int):aq:= {n with zH:=off}
structure KC where
 first:aq
 down:Int
 id:cP
 on:Int
 off:Int
 held:List (aH×Nat)
def fu(E:KC)(i:Nat)(x:aS)(s:List (aH×Nat)×List aq):List (aH×Nat)×List aq:=
 match eL E.held x.aB with
 | some k=>(if x.dQ then pf s.1 x.aB k else s.1,s.2.set k (cC (s.2.getD k default) E.off))
 | none=>(if x.dQ then pf s.1 x.aB s.2.length else s.1,s.2++ [cC (dY E.first E.down E.on E.id x.aB i) E.off])
def kp(E:KC):Nat→List aS→List (aH×Nat)×List aq→List (aH×Nat)×List aq
 | _,[],s=>s
 | i,x::r,s=>kp E (i+1) r (fu E i x s)
abbrev qk(h:AV)(first:aq)(down:Int):er:= .mix 122 ([.ptr (.ext 1) 0,h]++first.enc.map .p++ [nI down])
abbrev ui(l:List aq):er:= .mix 43 [.mo 9 (l.map aq.enc)]
theorem Hh(E:KC)(i:Nat)(x:aS)(s:List (aH×Nat)×List aq):s.2.length≤(fu E i x s).2.length∧(fu E i x s).2.length≤s.2.length+1:=by
 unfold fu;split
 ·simp
 ·simp
theorem CW(l:List aq)(k:Nat)(off:Int)(h:k<l.length):(l.map aq.enc).set k (cG (l.getD k default).enc 1 [.int .i64 off])=(l.set k (cC (l.getD k default) off)).map aq.enc:=by
 rw[List.map_set];all_goals rfl
theorem Fc(l:List aq)(n:aq)(off:Int):(l++ [n]).set l.length (cC ((l++ [n]).getD l.length default) off)=l++ [cC n off]:=by
 simp[List.getD_eq_getElem?_getD]
theorem y7(p:aH): -1000000000≤nq p∧nq p≤1000000000:=by
 unfold nq;split
 ·rename_i h;simp[aH.ok]at h;omega
 ·omega
set_option maxHeartbeats 4000000 in
theorem Rj(x:aD)(hx:x.aE.length≤1000000)(first:aq)(down on off:Int)(hd: -1000000000≤down∧down≤1000000000)(H:List (aH×Nat))(out:List aq)(hl:out.length≤1000000000)(hH:∀p k,eL H p=some k→k<out.length):
  JJ 65 [.ptr (.ext 0) 0,.agg x.enc,nI on,nI off] [qk (.fI false (qj H)) first down,ui out] (.dE [])
   [qk (.fI false (qj (kp ⟨first,down,x.ID,on,off,H⟩ 0 x.aE ([],out)).1)) first down,ui (kp ⟨first,down,x.ID,on,off,H⟩ 0 x.aE ([],out)).2]:=by
 refine XX.intro Tryz.func65 rfl rfl rfl rfl ?_;refine⟨_,al _ _,?_⟩;obtain⟨E,hE⟩:∃E:KC,E=⟨first,down,x.ID,on,off,H⟩:=⟨_,rfl⟩
 rw[←hE];obtain⟨R,hR⟩:∃R,kp E 0 x.aE ([],out)=R:=⟨_,rfl⟩
 rw[hR];refine⟨[0,2,3,5,8,18,19,20],[.own 5,.own 16,.ext 0,.ext 1],fun q S=>∃(i:Nat) (s:List (aH×Nat)×List aq),i≤x.aE.length∧q=x.aE.length-i∧kp E i (x.aE.drop i) s=R∧s.2.length≤out.length+i∧out.length≤s.2.length∧
  S=St.mk' [(0,.ptr (.ext 0) 0),(2,nI on),(3,nI off),(5,.ptr (.own 5) 0),(8,.dF (.own 16)),(18,.p (.sl 5 (x.aE.map aS.enc))),(19,nI x.aE.length),(20,nI i)]
   [(.own 5,.pure 111 x.enc),(.own 16,.mp false (qj s.1)),(.ext 0,qk (.fI false (qj H)) first down),(.ext 1,ui s.2)],
  ⟨_,0,([],out),by omega,rfl,hR,by simp,by simp,rfl⟩,?_⟩
 rintro q S ⟨i,s,hi,rfl,aw,gY,kf,rfl⟩;refine ab (fun h=>?_) (fun h=>?_)
 ·have h:=of_decide_eq_true h;have mW:i<x.aE.length:=by omega
  rw[List.drop_eq_getElem_cons mW]at aw;have oN:x.aE[i]=x.aE.getD i default:=by rw[List.getD_eq_getElem?_getD,List.getElem?_eq_getElem mW];rfl
  rw[oN]at aw;obtain⟨y,hy⟩:∃y,y=x.aE.getD i default:=⟨_,rfl⟩
  rw[←hy]at aw;refine⟨y.enc,by rw[hy];exact ao _ _ _ mW,?_⟩;refine⟨rfl,?_⟩;refine⟨rfl,?_⟩;refine⟨uh y.aB H,?_⟩;cases hf:eL H y.aB with
  | some k=>
   refine⟨true,[.int .i64 (k:Int)],by show dS y.aB.enc (qj H)=_;rw[CU,hf];rfl,?_⟩;have aw:kp E (i+1) (x.aE.drop (i+1)) (fu E i y s)=R:=aw;have eS:fu E i y s=(if y.dQ then pf s.1 y.aB k else s.1,s.2.set k (cC (s.2.getD k default) E.off)):=by
    unfold fu;rw[hE];simp only[hf]
   rw[eS]at aw;have hk:=hH _ _ hf;rw[show E.off=off by rw[hE]]at aw;refine ab (fun h=>by cases h) (fun _=>?_);refine⟨⟨by omega,by rw[List.length_map];omega⟩,?_⟩;refine⟨_,(ao aq.enc s.2 k (by omega)).2,_,CW s.2 k off (by omega),?_⟩;refine ab (fun h=>?_) (fun h=>?_)
   ·have ht:y.dQ=true:=h;refine⟨uh y.aB s.1,_,CV y.aB k s.1,?_⟩;refine⟨_,wrap_i64 (by omega) (by omega),?_⟩;rw[ht,if_pos rfl]at aw;exact⟨_,by omega,i+1,_,by omega,rfl,aw,by rw[List.length_set];omega,by rw[List.length_set];omega,rfl⟩
   ·have ht:y.dQ=false:=h;refine⟨_,wrap_i64 (by omega) (by omega),?_⟩;rw[ht,if_neg (by simp)]at aw;exact⟨_,by omega,i+1,_,by omega,rfl,aw,by rw[List.length_set];omega,by rw[List.length_set];omega,rfl⟩
  | none=>
   refine⟨false,[.int .i64 0],⟨by show dS y.aB.enc (qj H)=_;rw[CU,hf];rfl,rfl⟩,?_⟩;have aw:kp E (i+1) (x.aE.drop (i+1)) (fu E i y s)=R:=aw;have eS:fu E i y s=(if y.dQ then pf s.1 y.aB s.2.length else s.1,s.2++ [cC (dY E.first E.down E.on E.id y.aB i) E.off]):=by
    unfold fu;rw[hE];simp only[hf]
   rw[eS]at aw;have UG:=y7 y.aB;refine ab (fun _=>?_) (fun h=>by cases h);refine Or.inl ?_;refine⟨_,yH y.aB,?_⟩;refine⟨rfl,?_⟩;refine⟨[.no,.no,.no,.no,.no,.ld (.ext 0),.no,.no,.ld (.own 5),.no,.no,.st (.own 15),.no,.st (.own 15),.no,.st (.own 15),.no,.st (.own 15)],rfl,?_⟩;refine⟨rfl,?_⟩;refine⟨rfl,?_⟩;refine⟨rfl,?_⟩;refine⟨rfl,?_⟩;refine⟨rfl,?_⟩;refine⟨rfl,?_⟩;refine⟨rfl,?_⟩;refine⟨nq y.aB-down,wrap_i64 (x:=nq y.aB-down) (by omega) (by omega),?_⟩;refine⟨rfl,?_⟩;refine⟨rfl,?_⟩;refine⟨rfl,?_⟩;refine⟨rfl,?_⟩;refine⟨rfl,?_⟩;refine⟨rfl,?_⟩;refine⟨rfl,?_⟩;refine⟨rfl,?_⟩;refine⟨rfl,?_⟩;refine⟨rfl,?_⟩;refine⟨rfl,?_⟩;refine⟨_,al _ _,?_⟩;refine⟨[.pt,.pt,.pt,.S8 (.ext 0),.no,.no,.no,.no,.no,.no,.no,.no,.ap (.ext 1),.no,.no],rfl,?_⟩;refine⟨rfl,?_⟩;refine⟨rfl,?_⟩;refine⟨rfl,?_⟩;refine⟨rfl,?_⟩;refine⟨rfl,?_⟩;refine⟨rfl,?_⟩;refine⟨rfl,?_⟩;refine⟨rfl,?_⟩;refine⟨rfl,?_⟩;refine⟨rfl,?_⟩;refine⟨rfl,?_⟩;refine⟨rfl,?_⟩;refine⟨rfl,rfl,?_,(s.2++ [dY first down on x.ID y.aB i]).map aq.enc,by rw[List.map_append];rfl,?_⟩
   ·show((s.2.map aq.enc).length+1)*72≤140737488355328;simp;omega
   refine⟨rfl,?_⟩;refine⟨rfl,?_⟩;have vd:(s.2++ [dY first down on x.ID y.aB i]).set s.2.length (cC ((s.2++ [dY first down on x.ID y.aB i]).getD s.2.length default) off)=s.2++ [cC (dY first down on x.ID y.aB i) off]:=Fc _ _ _;rw[show E.first=first by rw[hE],show E.down=down by rw[hE],show E.on=on by rw[hE],show E.id=x.ID by rw[hE],show E.off=off by rw[hE],←vd]at aw;refine⟨⟨by omega,by simp only[List.length_map,List.length_append,List.length_cons,List.length_nil];omega⟩,?_⟩;refine⟨_,(ao aq.enc (s.2++ [dY first down on x.ID y.aB i]) s.2.length (by simp)).2,_,CW (s.2++ [dY first down on x.ID y.aB i]) s.2.length off (by simp),?_⟩;refine ab (fun h=>?_) (fun h=>?_)
   ·have ht:y.dQ=true:=h;refine⟨uh y.aB s.1,_,CV y.aB s.2.length s.1,?_⟩;refine⟨_,wrap_i64 (by omega) (by omega),?_⟩;rw[ht,if_pos rfl]at aw;exact⟨_,by omega,i+1,_,by omega,rfl,aw,by simp;omega,by simp;omega,rfl⟩
   ·have ht:y.dQ=false:=h;refine⟨_,wrap_i64 (by omega) (by omega),?_⟩;rw[ht,if_neg (by simp)]at aw;exact⟨_,by omega,i+1,_,by omega,rfl,aw,by simp;omega,by simp;omega,rfl⟩
 ·have h:=of_decide_eq_false h;obtain rfl:i=x.aE.length:=by omega
  rw[List.drop_length]at aw;have aw:s=R:=aw;subst aw;exact⟨rfl,rfl⟩
set_option maxHeartbeats 4000000 in
theorem Rk(x:aD)(hx:x.aE.length≤1000000)(first:aq)(down on off:Int)(hd: -1000000000≤down∧down≤1000000000)(out:List aq)(hl:out.length≤1000000000):
  JJ 65 [.ptr (.ext 0) 0,.agg x.enc,nI on,nI off] [qk .fD first down,ui out] (.dE [])
   [qk (.fI false (qj (kp ⟨first,down,x.ID,on,off,[]⟩ 0 x.aE ([],out)).1)) first down,ui (kp ⟨first,down,x.ID,on,off,[]⟩ 0 x.aE ([],out)).2]:=by
 refine XX.intro Tryz.func65 rfl rfl rfl rfl ?_;refine⟨_,al _ _,?_⟩;obtain⟨E,hE⟩:∃E:KC,E=⟨first,down,x.ID,on,off,[]⟩:=⟨_,rfl⟩
 rw[←hE];obtain⟨R,hR⟩:∃R,kp E 0 x.aE ([],out)=R:=⟨_,rfl⟩
 rw[hR];refine⟨[0,2,3,5,8,18,19,20],[.own 5,.own 16,.ext 0,.ext 1],fun q S=>∃(i:Nat) (s:List (aH×Nat)×List aq),i≤x.aE.length∧q=x.aE.length-i∧kp E i (x.aE.drop i) s=R∧s.2.length≤out.length+i∧out.length≤s.2.length∧
  S=St.mk' [(0,.ptr (.ext 0) 0),(2,nI on),(3,nI off),(5,.ptr (.own 5) 0),(8,.dF (.own 16)),(18,.p (.sl 5 (x.aE.map aS.enc))),(19,nI x.aE.length),(20,nI i)]
   [(.own 5,.pure 111 x.enc),(.own 16,.mp false (qj s.1)),(.ext 0,qk .fD first down),(.ext 1,ui s.2)],
  ⟨_,0,([],out),by omega,rfl,hR,by simp,by simp,rfl⟩,?_⟩
 rintro q S ⟨i,s,hi,rfl,aw,gY,kf,rfl⟩;refine ab (fun h=>?_) (fun h=>?_)
 ·have h:=of_decide_eq_true h;have mW:i<x.aE.length:=by omega
  rw[List.drop_eq_getElem_cons mW]at aw;have oN:x.aE[i]=x.aE.getD i default:=by rw[List.getD_eq_getElem?_getD,List.getElem?_eq_getElem mW];rfl
  rw[oN]at aw;obtain⟨y,hy⟩:∃y,y=x.aE.getD i default:=⟨_,rfl⟩
  rw[←hy]at aw;refine⟨y.enc,by rw[hy];exact ao _ _ _ mW,?_⟩;refine⟨rfl,?_⟩;refine⟨rfl,?_⟩;have hf:eL [] y.aB=none:=rfl;have aw:kp E (i+1) (x.aE.drop (i+1)) (fu E i y s)=R:=aw;have eS:fu E i y s=(if y.dQ then pf s.1 y.aB s.2.length else s.1,s.2++ [cC (dY E.first E.down E.on E.id y.aB i) E.off]):=by
   unfold fu;rw[hE];simp only[hf]
  rw[eS]at aw;have UG:=y7 y.aB;refine ab (fun _=>?_) (fun h=>by cases h);refine Or.inl ?_;refine⟨_,yH y.aB,?_⟩;refine⟨rfl,?_⟩;refine⟨[.no,.no,.no,.no,.no,.ld (.ext 0),.no,.no,.ld (.own 5),.no,.no,.st (.own 15),.no,.st (.own 15),.no,.st (.own 15),.no,.st (.own 15)],rfl,?_⟩;refine⟨rfl,?_⟩;refine⟨rfl,?_⟩;refine⟨rfl,?_⟩;refine⟨rfl,?_⟩;refine⟨rfl,?_⟩;refine⟨rfl,?_⟩;refine⟨rfl,?_⟩;refine⟨nq y.aB-down,wrap_i64 (x:=nq y.aB-down) (by omega) (by omega),?_⟩;refine⟨rfl,?_⟩;refine⟨rfl,?_⟩;refine⟨rfl,?_⟩;refine⟨rfl,?_⟩;refine⟨rfl,?_⟩;refine⟨rfl,?_⟩;refine⟨rfl,?_⟩;refine⟨rfl,?_⟩;refine⟨rfl,?_⟩;refine⟨rfl,?_⟩;refine⟨rfl,?_⟩;refine⟨_,al _ _,?_⟩;refine⟨[.pt,.pt,.pt,.S8 (.ext 0),.no,.no,.no,.no,.no,.no,.no,.no,.ap (.ext 1),.no,.no],rfl,?_⟩;refine⟨rfl,?_⟩;refine⟨rfl,?_⟩;refine⟨rfl,?_⟩;refine⟨rfl,?_⟩;refine⟨rfl,?_⟩;refine⟨rfl,?_⟩;refine⟨rfl,?_⟩;refine⟨rfl,?_⟩;refine⟨rfl,?_⟩;refine⟨rfl,?_⟩;refine⟨rfl,?_⟩;refine⟨rfl,?_⟩;refine⟨rfl,rfl,?_,(s.2++ [dY first down on x.ID y.aB i]).map aq.enc,by rw[List.map_append];rfl,?_⟩
  ·show((s.2.map aq.enc).length+1)*72≤140737488355328;simp;omega
  refine⟨rfl,?_⟩;refine⟨rfl,?_⟩;have vd:(s.2++ [dY first down on x.ID y.aB i]).set s.2.length (cC ((s.2++ [dY first down on x.ID y.aB i]).getD s.2.length default) off)=s.2++ [cC (dY first down on x.ID y.aB i) off]:=Fc _ _ _;rw[show E.first=first by rw[hE],show E.down=down by rw[hE],show E.on=on by rw[hE],show E.id=x.ID by rw[hE],show E.off=off by rw[hE],←vd]at aw;refine⟨⟨by omega,by simp only[List.length_map,List.length_append,List.length_cons,List.length_nil];omega⟩,?_⟩;refine⟨_,(ao aq.enc (s.2++ [dY first down on x.ID y.aB i]) s.2.length (by simp)).2,_,CW (s.2++ [dY first down on x.ID y.aB i]) s.2.length off (by simp),?_⟩;refine ab (fun h=>?_) (fun h=>?_)
  ·have ht:y.dQ=true:=h;refine⟨uh y.aB s.1,_,CV y.aB s.2.length s.1,?_⟩;refine⟨_,wrap_i64 (by omega) (by omega),?_⟩;rw[ht,if_pos rfl]at aw;exact⟨_,by omega,i+1,_,by omega,rfl,aw,by simp;omega,by simp;omega,rfl⟩
  ·have ht:y.dQ=false:=h;refine⟨_,wrap_i64 (by omega) (by omega),?_⟩;rw[ht,if_neg (by simp)]at aw;exact⟨_,by omega,i+1,_,by omega,rfl,aw,by simp;omega,by simp;omega,rfl⟩
 ·have h:=of_decide_eq_false h;obtain rfl:i=x.aE.length:=by omega
  rw[List.drop_length]at aw;have aw:s=R:=aw;subst aw;exact⟨rfl,rfl⟩
open Go.Proofs
theorem eO(p q:aH)(k:Nat):∀h:List (aH×Nat),eL (pf h p k) q=if q=p then some k else eL h q
 | []=>by
  show(if q=p then some k else none)=_;rfl
 | e::r=>by
  unfold pf;by_cases h1:p=e.1
  ·rw[if_pos h1];show(if q=p then some k else eL r q)=_;by_cases h2:q=p
   ·rw[if_pos h2,if_pos h2]
   ·rw[if_neg h2,if_neg h2];rw[show eL (e::r) q=if q=e.1 then some e.2 else eL r q from rfl,if_neg (fun e=>h2 (e.trans h1.symm))]
  ·rw[if_neg h1];show(if q=e.1 then some e.2 else eL (pf r p k) q)=_;rw[eO p q k r];by_cases h2:q=e.1
   ·rw[if_pos h2,if_neg (fun e2=>h1 (e2.symm.trans h2))];rw[show eL (e::r) q=if q=e.1 then some e.2 else eL r q from rfl,if_pos h2]
   ·rw[if_neg h2];show _=if q=p then some k else(if q=e.1 then some e.2 else eL r q)
    rw[if_neg h2]
def wX(h:List (aH×Nat))(n:Nat):Prop:=∀p k,eL h p=some k→k<n
theorem wX.mono{h:List (aH×Nat)}{n m:Nat}(k:wX h n)(hn:n≤m):wX h m:=fun p x hx=>Nat.lt_of_lt_of_le (k p x hx) hn
theorem wX.nil(n:Nat):wX [] n:=fun p k h=>by cases h
theorem wX.put{h:List (aH×Nat)}{n k:Nat}(hh:wX h n)(p:aH)(hk:k<n):wX (pf h p k) n:=fun q x hx=>by
 rw[eO]at hx;split at hx
 ·cases hx;exact hk
 ·exact hh q x hx
theorem CX(E:KC):∀(l:List aS) (i:Nat) (s:List (aH×Nat)×List aq),wX E.held s.2.length→wX s.1 s.2.length→wX (kp E i l s).1 (kp E i l s).2.length∧s.2.length≤(kp E i l s).2.length∧(kp E i l s).2.length≤s.2.length+l.length
 | [],i,s,h1,h2=>⟨h2,Nat.le_refl _,Nat.le_refl _⟩
 | x::r,i,s,h1,h2=>by
  have hs:=Hh E i x s;have h3:wX (fu E i x s).1 (fu E i x s).2.length:=by
   unfold fu;cases hf:eL E.held x.aB with
   | some k=>
    have hk:=h1 _ _ hf;simp only[List.length_set];split
    ·exact h2.put _ hk
    ·exact h2
   | none=>
    simp only[List.length_append,List.length_cons,List.length_nil];split
    ·exact(h2.mono (by omega)).put _ (by omega)
    ·exact h2.mono (by omega)
  have:=CX E r (i+1) (fu E i x s) (h1.mono hs.1) h3;refine⟨this.1,?_,?_⟩
  ·exact Nat.le_trans hs.1 this.2.1
  ·have h4:=this.2.2;show(kp E (i+1) r (fu E i x s)).2.length≤_;simp only[List.length_cons];omega
abbrev mU:=Option (List (aH×Nat))
def X5:mU→AV
 | none=> .fD
 | some h=> .fI false (qj h)
def vC:mU→List (aH×Nat)
 | none=> []
 | some h=>h
structure ql where
 first:aq
 down:Int
 m:aj
 du:Int
 aC:Nat
 number:Nat
def ql.ev(L:ql)(x:cY):aD:=(((L.m.Cells.getD L.aC default).ai.getD L.number default).ak).getD x.Event.toNat default
def ql.here(L:ql)(x:cY):Bool:=bif(x.bA==(L.aC:Int))then(x.cj==(L.number:Int))else false
def dv(L:ql)(x:cY)(s:mU×List aq×Bool):mU×List aq×Bool:=
 if L.here x=true then
  let r:=kp ⟨L.first,L.down,(L.ev x).ID,L.du+x.On,L.du+x.zH,vC s.1⟩ 0 (L.ev x).aE ([],s.2.1)
  (some r.1,r.2,true)
 else s
def cD(L:ql):List cY→mU×List aq×Bool→mU×List aq×Bool
 | [],s=>s
 | x::r,s=>cD L r (dv L x s)
structure CY(L:ql)(x:cY):Prop where
 on: -1000000000000≤x.On∧x.On≤1000000000000
 off: -1000000000000≤x.zH∧x.zH≤1000000000000
 place:L.here x=true→L.aC<L.m.Cells.length∧L.number<(L.m.Cells.getD L.aC default).ai.length∧0≤x.Event∧x.Event<((L.m.Cells.getD L.aC default).ai.getD L.number default).ak.length∧(L.ev x).aE.length≤1000
theorem UH(x:aD)(hx:x.aE.length≤1000000)(first:aq)(down on off:Int)(hd: -1000000000≤down∧down≤1000000000)(H:mU)(out:List aq)(hl:out.length≤1000000000)(hH:wX (vC H) out.length):
  JJ 65 [.ptr (.ext 0) 0,.agg x.enc,nI on,nI off] [qk (X5 H) first down,ui out] (.dE [])
   [qk (.fI false (qj (kp ⟨first,down,x.ID,on,off,vC H⟩ 0 x.aE ([],out)).1)) first down,ui (kp ⟨first,down,x.ID,on,off,vC H⟩ 0 x.aE ([],out)).2]:=by
 cases H with
 | none=>exact Rk x hx first down on off hd out hl
 | some h=>exact Rj x hx first down on off hd h out hl hH
set_option maxHeartbeats 4000000 in
theorem UI(L:ql)(hw:L.m.wf)(xf:vA L.m)(hE:L.m.cI=0)(hd: -1000000000≤L.down∧L.down≤1000000000)(ho: -1000000000000≤L.du∧L.du≤1000000000000)(hS:∀x∈(cJ L.m).1,CY L x)(hSl:(cJ L.m).1.length≤100000)
  (H:mU) (out:List aq) (hl:out.length+1000*(cJ L.m).1.length≤1000000000) (hH:wX (vC H) out.length):
  JJ 33 [.ptr (.ext 0) 0,.agg L.m.enc,nI L.du,nI L.aC,nI L.number] [qk (X5 H) L.first L.down,ui out] (.dE [])
   [qk (X5 (if(cD L (cJ L.m).1 (H,out,false)).2.2=true then(cD L (cJ L.m).1 (H,out,false)).1 else none)) L.first L.down,ui (cD L (cJ L.m).1 (H,out,false)).2.1]:=by
 obtain⟨l,hL⟩:∃l,l=(cJ L.m).1:=⟨_,rfl⟩
 have X6:=E3 L.m hw xf hE;rw[←hL]at hS hSl hl X6 ⊢;obtain⟨R,hR⟩:∃R,cD L l (H,out,false)=R:=⟨_,rfl⟩
 rw[hR];have ac0:∀(P:Prop),P→P:=fun _ h=>h
 cases H;all_goals
  refine JJ.intro Tryz.func33 rfl rfl rfl rfl ?_;refine⟨_,X6,?_⟩;refine⟨_,al _ _,?_⟩;refine⟨[0,2,3,4,6,12,20,21,22],[.own 6,.ext 0,.ext 1],fun q S=>∃(i:Nat) (s:mU×List aq×Bool),i≤l.length∧q=l.length-i∧cD L (l.drop i) s=R∧s.2.1.length≤out.length+1000*i∧wX (vC s.1) s.2.1.length∧
   S=St.mk' [(0,.ptr (.ext 0) 0),(2,nI L.du),(3,nI L.aC),(4,nI L.number),(6,.ptr (.own 6) 0),(12,nB s.2.2),(20,.p (.sl 5 (l.map cY.enc))),(21,nI l.length),(22,nI i)] [(.own 6,.pure 82 L.m.enc),(.ext 0,qk (X5 s.1) L.first L.down),(.ext 1,ui s.2.1)],
   ⟨_,0,(_,out,false),by omega,rfl,hR,by simp,hH,rfl⟩,?_⟩
  rintro q S ⟨i,⟨h,o,b⟩,hi,rfl,aw,gY,kf,rfl⟩;refine ab (fun hc=>?_) (fun hc=>?_)
  ·have hc:=of_decide_eq_true hc;have mW:i<l.length:=by omega
   rw[aF mW]at aw;obtain⟨y,hy⟩:∃y,y=l.getD i default:=⟨_,rfl⟩
   have cq:CY L y:=by rw[hy];exact hS _ (av mW)
   rw[←hy]at aw
   replace aw:cD L (l.drop (i+1)) (dv L y (h,o,b))=R:=aw
   refine⟨y.enc,by rw[hy];exact ao _ _ _ mW,?_⟩;refine⟨rfl,?_⟩;refine ab (fun nz=>?_) (fun nz=>?_)
   ·have nz:L.here y=true:=nz;obtain⟨p1,p2,p3,p4,p5⟩:=cq.place nz;have e:dv L y (h,o,b)=(some (kp ⟨L.first,L.down,(L.ev y).ID,L.du+y.On,L.du+y.zH,vC h⟩ 0 (L.ev y).aE ([],o)).1,(kp ⟨L.first,L.down,(L.ev y).ID,L.du+y.On,L.du+y.zH,vC h⟩ 0 (L.ev y).aE ([],o)).2,true):=by
     unfold dv;rw[if_pos nz]
    rw[e]at aw;have dq:=CX ⟨L.first,L.down,(L.ev y).ID,L.du+y.On,L.du+y.zH,vC h⟩ (L.ev y).aE 0 ([],o) kf (wX.nil _);have hq1:=cq.on;have hq2:=cq.off;have h65:=UH (L.ev y) (by omega) L.first L.down (L.du+y.On) (L.du+y.zH) hd h o (by simp only at gY;omega) kf;obtain⟨Z,hZ⟩:∃Z,Z=kp ⟨L.first,L.down,(L.ev y).ID,L.du+y.On,L.du+y.zH,vC h⟩ 0 (L.ev y).aE ([],o):=⟨_,rfl⟩
    rw[←hZ]at aw dq h65;refine⟨rfl,?_⟩;refine⟨_,ao aI.enc L.m.Cells L.aC p1,?_⟩;refine⟨_,ao ax.enc (L.m.Cells.getD L.aC default).ai L.number p2,?_⟩;refine⟨_,cZ aD.enc ((L.m.Cells.getD L.aC default).ai.getD L.number default).ak y.Event p3 p4,?_⟩;refine⟨_,wrap_i64 (by omega) (by omega),?_⟩;refine⟨_,wrap_i64 (by omega) (by omega),?_⟩;cases h;all_goals
     refine⟨_,_,h65,rfl,?_⟩;refine⟨_,wrap_i64 (by omega) (by omega),?_⟩;exact⟨l.length-(i+1),by omega,i+1,(some Z.1,Z.2,true),by omega,rfl,aw,by have h7:=dq.2.2;simp only at h7 gY ⊢;omega,dq.1,rfl⟩
   ·have nz:L.here y=false:=nz;have e:dv L y (h,o,b)=(h,o,b):=by
     unfold dv;rw[if_neg (by rw[nz];simp)]
    rw[e]at aw;refine⟨_,wrap_i64 (by omega) (by omega),?_⟩;cases h;all_goals exact⟨l.length-(i+1),by omega,i+1,_,by omega,rfl,aw,by simp only at gY ⊢;omega,kf,rfl⟩
  ·have hc:=of_decide_eq_false hc;obtain rfl:i=l.length:=by omega
   rw[List.drop_length]at aw;have aw:(h,o,b)=R:=aw;subst aw;cases h;all_goals
    refine ab (fun hb=>?_) (fun hb=>?_)
    ·have hb:b=false:=by simpa using hb
     subst hb;exact⟨rfl,rfl⟩
    ·have hb:b=true:=by simpa using hb
     subst hb;exact⟨rfl,rfl⟩
end Go.Hm
set_option maxRecDepth 4096
namespace Go.Hm
open Go.Proofs
def fv(out:List Int)(i:Nat):List aj→List Int
 | []=>out
 | m::r=>fv (out++ [out.getD i default+m.len]) (i+1) r
def ae.bf(s:ae):List Int:=fv [0] 0 s.aa
theorem oW{l:List aj}{k:Nat}(out:List Int)(i:Nat)(h:k<l.length):fv out i (l.drop k)=fv (out++ [out.getD i default+(l.getD k default).len]) (i+1) (l.drop (k+1)):=by
 have e:l.getD k default=l[k]:=by rw[List.getD_eq_getElem?_getD,List.getElem?_eq_getElem h];rfl
 rw[List.drop_eq_getElem_cons h,fv,e]
theorem aj.uj(m:aj):0≤m.len∧m.len≤15482880:=by
 by_cases h:m.cI=0
 ·exact m.QS h
 ·have e:m.len=0:=by unfold aj.len;rw[if_neg h]
  rw[e];omega
theorem NR(s:ae)(hw:s.wf)(hl:s.aa.length≤100000):JJ 27 [.agg s.enc] [] (.p (.sl 1 (s.bf.map cB))) []:=by
 refine JJ.intro Tryz.func27 rfl rfl rfl rfl ?_;refine⟨_,al _ _,?_⟩;refine⟨[3,10,11,12],[],fun n S=>∃(k:Nat) (out:List Int),k≤s.aa.length∧n=s.aa.length-k∧out.length=k+1∧(∀x∈out,0≤x∧x≤15482880*k)∧fv out k (s.aa.drop k)=s.bf∧S=St.mk' [(3,.own 1 (out.map cB)),(10,.p (.sl 22 (s.aa.map aj.enc))),(11,nI s.aa.length),(12,nI k)] [],⟨_,0,[0],by omega,rfl,rfl,by simp,rfl,rfl⟩,?_⟩;rintro n S ⟨k,out,hk,rfl,ho,hb,hf,rfl⟩;refine ab (fun h=>?_) (fun h=>?_)
 ·have h:=of_decide_eq_true h;have b9:k<s.aa.length:=by omega
  rw[oW out k b9]at hf;have cV:=av b9;have hu:iO (s.aa.getD k default).bC.Unit:=((hw.aa.2 _ cV).bC).Unit;obtain⟨l1,l2⟩:=aj.uj (s.aa.getD k default);have cq:k<out.length:=by omega
  obtain⟨o1,o2⟩:=hb _ (av cq);refine⟨_,ao _ _ _ b9,?_⟩;refine⟨rfl,?_⟩;refine⟨_,kU (s.aa.getD k default) hu,?_⟩;refine⟨_,ao _ _ _ cq,?_⟩;refine⟨_,wrap_i64 (by omega) (by omega),?_⟩;refine⟨?_,(out++ [out.getD k default+(s.aa.getD k default).len]).map cB,by rw[List.map_append];rfl,?_⟩
  ·show((out.map cB).length+1)*8≤140737488355328;rw[List.length_map];omega
  ·refine⟨_,wrap_i64 (by omega) (by omega),?_⟩;refine⟨_,by omega,k+1,_,by omega,rfl,by simp[ho],?_,hf,rfl⟩;intro x hx;rw[List.mem_append]at hx;rcases hx with hx | hx
   ·obtain⟨a1,a2⟩:=hb x hx
    push_cast
    omega
   ·simp only[List.mem_singleton]at hx;subst hx
    push_cast
    omega
 ·have h:=of_decide_eq_false h;obtain rfl:k=s.aa.length:=by omega
  rw[List.drop_length]at hf;have hf:out=s.bf:=hf;rw[←hf];exact⟨rfl,rfl⟩
theorem Hi(s:ae)(hw:s.wf)(hl:s.aa.length≤100000):JJ 15 [.agg s.enc] [] (.p (.sl 1 (s.bf.map cB))) []:=by
 refine JJ.intro Tryz.func15 rfl rfl rfl rfl ?_;refine⟨[1,3,4],[.own 1],fun n S=>∃(k:Nat) (out:List Int),k≤s.aa.length∧n=s.aa.length-k∧out.length=k+1∧(∀x∈out,0≤x∧x≤15482880*k)∧fv out k (s.aa.drop k)=s.bf∧S=St.mk' [(1,.ptr (.own 1) 0),(3,.own 1 (out.map cB)),(4,nI k)] [(.own 1,.pure 27 s.enc)],⟨_,0,[0],by omega,rfl,rfl,by simp,rfl,rfl⟩,?_⟩;rintro n S ⟨k,out,hk,rfl,ho,hb,hf,rfl⟩;refine⟨_,al _ _,?_⟩;refine ab (fun h=>?_) (fun h=>?_)
 ·have h:=of_decide_eq_true h;have b9:k<s.aa.length:=by omega
  rw[oW out k b9]at hf;have cV:=av b9;have hu:iO (s.aa.getD k default).bC.Unit:=((hw.aa.2 _ cV).bC).Unit;obtain⟨l1,l2⟩:=aj.uj (s.aa.getD k default);have cq:k<out.length:=by omega
  obtain⟨o1,o2⟩:=hb _ (av cq);refine⟨_,ao _ _ _ b9,?_⟩;refine⟨_,kU (s.aa.getD k default) hu,?_⟩;refine⟨_,ao _ _ _ cq,?_⟩;refine⟨_,wrap_i64 (by omega) (by omega),?_⟩;refine⟨?_,(out++ [out.getD k default+(s.aa.getD k default).len]).map cB,by rw[List.map_append];rfl,?_⟩
  ·show((out.map cB).length+1)*8≤140737488355328;rw[List.length_map];omega
  ·refine⟨_,wrap_i64 (by omega) (by omega),?_⟩;refine⟨_,by omega,k+1,_,by omega,rfl,by simp[ho],?_,hf,rfl⟩;intro x hx;rw[List.mem_append]at hx;rcases hx with hx | hx
   ·obtain⟨a1,a2⟩:=hb x hx
    push_cast
    omega
   ·simp only[List.mem_singleton]at hx;subst hx
    push_cast
    omega
 ·have h:=of_decide_eq_false h;obtain rfl:k=s.aa.length:=by omega
  rw[List.drop_length]at hf;have hf:out=s.bf:=hf;rw[←hf];exact⟨rfl,rfl⟩
open Go.Proofs
def iL(i:Nat)(aC:Int):List cf→Int×Int
 | []=>(0,0)
 | p::r=>if aC<p.aL.length then((i:Int),aC)else iL (i+1) (IntKind.i64.wrap (aC-p.aL.length)) r
def ae.owner(s:ae)(aC:Int):Int×Int:=iL 0 aC s.ay
theorem y8{l:List cf}{k:Nat}(i:Nat)(aC:Int)(h:k<l.length):iL i aC (l.drop k)=if aC<(l.getD k default).aL.length then((i:Int),aC)else iL (i+1) (IntKind.i64.wrap (aC-(l.getD k default).aL.length)) (l.drop (k+1)):=by
 have e:l.getD k default=l[k]:=by rw[List.getD_eq_getElem?_getD,List.getElem?_eq_getElem h];rfl
 rw[List.drop_eq_getElem_cons h,iL,e]
theorem NS(s:ae)(aC:Int)(hl:s.ay.length≤maxLen):JJ 36 [.agg s.enc,nI aC] [] (.dE [nI (s.owner aC).1,nI (s.owner aC).2]) []:=by
 refine JJ.intro Tryz.func36 rfl rfl rfl rfl ?_;have fw:maxLen≤9223372036854775807:=by decide
 refine⟨[1,2,6],[.own 2],fun n S=>∃(k:Nat) (st:Int),k≤s.ay.length∧n=s.ay.length-k∧iL k st (s.ay.drop k)=s.owner aC∧S=St.mk' [(1,nI st),(2,.ptr (.own 2) 0),(6,nI k)] [(.own 2,.pure 27 s.enc)],⟨_,0,aC,by omega,rfl,rfl,rfl⟩,?_⟩;rintro n S ⟨k,st,hk,rfl,hf,rfl⟩;refine⟨_,al _ _,?_⟩;refine ab (fun h=>?_) (fun h=>?_)
 ·have h:=of_decide_eq_true h;have b9:k<s.ay.length:=by omega
  rw[y8 k st b9]at hf;refine⟨_,ao _ _ _ b9,?_⟩;refine⟨_,al _ _,?_⟩;refine ab (fun h=>?_) (fun h=>?_)
  ·have h:st<(s.ay.getD k default).aL.length:=of_decide_eq_true h;rw[if_pos h]at hf;rw[←hf];exact⟨rfl,rfl⟩
  ·have h:¬st<(s.ay.getD k default).aL.length:=of_decide_eq_false h;rw[if_neg h]at hf;refine⟨_,ao _ _ _ b9,?_⟩;refine⟨_,al _ _,?_⟩;refine⟨_,rfl,?_⟩;refine⟨_,wrap_i64 (by omega) (by omega),?_⟩;exact⟨_,by omega,k+1,_,by omega,rfl,hf,rfl⟩
 ·have h:=of_decide_eq_false h;obtain rfl:k=s.ay.length:=by omega
  rw[List.drop_length]at hf;have hf:((0:Int),(0:Int))=s.owner aC:=hf;rw[←hf];exact⟨rfl,rfl⟩
open Go.Proofs
def ek(i:Nat)(aC:Int):List cf→Int×Int×Int
 | []=>(0,0,2)
 | p::r=>if aC<p.aL.length then((i:Int),aC,0)else ek (i+1) (IntKind.i64.wrap (aC-p.aL.length)) r
def ae.partOf(s:ae)(aC:Int):Int×Int×Int:=if aC<0 then(0,0,2)else ek 0 aC s.ay
theorem z7{l:List cf}{k:Nat}(i:Nat)(aC:Int)(h:k<l.length):ek i aC (l.drop k)=if aC<(l.getD k default).aL.length then((i:Int),aC,0)else ek (i+1) (IntKind.i64.wrap (aC-(l.getD k default).aL.length)) (l.drop (k+1)):=by
 have e:l.getD k default=l[k]:=by rw[List.getD_eq_getElem?_getD,List.getElem?_eq_getElem h];rfl
 rw[List.drop_eq_getElem_cons h,ek,e]
theorem CZ(s:ae)(aC:Int)(hl:s.ay.length≤maxLen):JJ 28 [.agg s.enc,nI aC] [] (.dE [nI (s.partOf aC).1,nI (s.partOf aC).2.1,nI (s.partOf aC).2.2]) []:=by
 refine JJ.intro Tryz.func28 rfl rfl rfl rfl ?_;have fw:maxLen≤9223372036854775807:=by decide
 unfold ae.partOf;refine ab (fun h=>?_) (fun h=>?_)
 ·rw[if_pos (show aC<0 from of_decide_eq_true h)];exact⟨rfl,rfl⟩
 ·rw[if_neg (show ¬aC<0 from of_decide_eq_false h)];refine⟨_,al _ _,?_⟩;refine⟨[1,12,13,14],[],fun n S=>∃(k:Nat) (st:Int),k≤s.ay.length∧n=s.ay.length-k∧ek k st (s.ay.drop k)=ek 0 aC s.ay∧S=St.mk' [(1,nI st),(12,.p (.sl 6 (s.ay.map cf.enc))),(13,nI s.ay.length),(14,nI k)] [],⟨_,0,aC,by omega,rfl,rfl,rfl⟩,?_⟩;rintro n S ⟨k,st,hk,rfl,hf,rfl⟩;refine ab (fun h=>?_) (fun h=>?_)
  ·have h:=of_decide_eq_true h;have b9:k<s.ay.length:=by omega
   rw[z7 k st b9]at hf;refine⟨_,ao _ _ _ b9,?_⟩;refine⟨rfl,?_⟩;refine⟨_,al _ _,?_⟩;refine ab (fun h=>?_) (fun h=>?_)
   ·have h:st<(s.ay.getD k default).aL.length:=of_decide_eq_true h;rw[if_pos h]at hf;rw[←hf];exact⟨rfl,rfl⟩
   ·have h:¬st<(s.ay.getD k default).aL.length:=of_decide_eq_false h;rw[if_neg h]at hf;refine⟨_,al _ _,?_⟩;refine⟨_,rfl,?_⟩;refine⟨_,wrap_i64 (by omega) (by omega),?_⟩;exact⟨_,by omega,k+1,_,by omega,rfl,hf,rfl⟩
  ·have h:=of_decide_eq_false h;obtain rfl:k=s.ay.length:=by omega
   rw[List.drop_length]at hf;have hf:((0:Int),(0:Int),(2:Int))=ek 0 aC s.ay:=hf;rw[←hf];exact⟨rfl,rfl⟩
end Go.Hm
set_option maxRecDepth 8000
namespace Go.Hm
open Go.Proofs
theorem X7(s:ae)(hV:JJ 6 [.agg s.enc] [] (nB true) [])(hw:s.wf)(hl:s.aa.length≤100000):JJ 7 [.agg s.enc] [] (.dE [.p (.sl 1 (s.bf.map cB)),nI 0]) []:=by
 refine JJ.intro Tryz.func7 rfl rfl rfl rfl ?_;refine⟨_,hV,?_⟩;refine ab (fun h=>by cases h) (fun _=>?_);refine⟨_,NR s hw hl,?_⟩;exact⟨rfl,rfl⟩
def wG(s:ae)(tr:cH)(m:aj):Int:=if s.Written=true then(jt m.dO tr).1 else m.dO
def uk(s:ae)(tr:cH)(now:Int)(m:aj)(c:aI):bD:=⟨gR 0 now c.bm,wG s tr m,m.bC⟩
def l9(now:Int)(c:aI):Int:=if c.bm.length>0 then(c.bm.getD (c.bm.length-1) default).fq else gR 0 now c.bm
def rE(s:ae)(tr:cH)(aC:Nat):Int→List aj→List bD→List bD
 | _,[],out=>out
 | now,m::r,out=>rE s tr aC (l9 now (m.Cells.getD aC default)) r (out++ [uk s tr now m (m.Cells.getD aC default)])
structure NT(s:ae)(aC p k:Nat):Prop where
 wf:s.wf
 parts:s.ay.length≤1000
 ep:s.aa.length≤100000
 partOf:s.partOf aC=((p:Int),(k:Int),0)
 owner:s.owner aC=((p:Int),(k:Int))
 bG:(aC:Int)<s.bG
 hp:p<s.ay.length
 hk:k<(s.ay.getD p default).aL.length
 NU:fy (((s.ay.getD p default).aL.getD k default).fq)=0
 cells:∀m∈s.aa,aC<m.Cells.length
 NV:∀m∈s.aa,∀x∈(m.Cells.getD aC default).bm,fy x.fq=0∧0≤x.At
 trans:s.Written=true→ ∀m∈s.aa,(jt m.dO (s.ay.getD p default).aT).2=0
def KD(s:ae)(aC p k:Nat):List bD:=rE s (s.ay.getD p default).aT aC ((s.ay.getD p default).aL.getD k default).fq s.aa []
theorem A9(at_:Int):∀(l:List ba) (c:Int),fy c=0→(∀x∈l,fy x.fq=0)→fy (gR at_ c l)=0
 | [],c,h,_=>h
 | x::r,c,h,hx=>by
  show fy (gR at_ (if x.At≤at_ then x.fq else c) r)=0;refine A9 at_ r _ ?_ (fun y hy=>hx y (by simp[hy]));split
  ·exact hx x (by simp)
  ·exact h
theorem NW(now:Int)(c:aI)(h:fy now=0)(hx:∀x∈c.bm,fy x.fq=0):fy (l9 now c)=0:=by
 unfold l9;split
 ·exact hx _ (av (by omega))
 ·exact A9 0 _ _ h hx
set_option maxHeartbeats 2000000 in
theorem X8(s:ae)(hV:JJ 6 [.agg s.enc] [] (nB true) [])(aC p k:Nat)(hC:NT s aC p k):
  JJ 8 [.agg s.enc,nI aC] [] (.dE [.p (.sl 10 ((KD s aC p k).map bD.enc)),nI 0]) []:=by
 have fw:maxLen≤9223372036854775807:=by decide
 have j5:(1000:Nat)≤maxLen:=by decide
 have pk:=hC.wf;have h28:=CZ s aC (by have:=hC.parts;omega);rw[hC.partOf]at h28;refine JJ.intro Tryz.func8 rfl rfl rfl rfl ?_;refine⟨_,hV,?_⟩;refine ab (fun h=>by cases h) (fun _=>?_);refine⟨_,h28,?_⟩;refine ab (fun h=>by cases h) (fun _=>?_);refine⟨_,ao cf.enc s.ay p hC.hp,?_⟩;refine⟨rfl,?_⟩;refine⟨_,ao ee.enc (s.ay.getD p default).aL k hC.hk,?_⟩;refine⟨_,al _ _,?_⟩;unfold KD;have NX:=hC.NU;have PT:=hC.trans;obtain⟨pt,Pg⟩:∃x,x=s.ay.getD p default:=⟨_,rfl⟩
 rw[←Pg]at NX PT ⊢;obtain⟨UJ,KE⟩:∃x,x=(pt.aL.getD k default).fq:=⟨_,rfl⟩
 rw[←KE]at NX;obtain⟨R,hR⟩:∃R,rE s pt.aT aC (pt.aL.getD k default).fq s.aa []=R:=⟨_,rfl⟩
 rw[hR];refine⟨[1,2,9,10,11,40,41,42],[.own 2,.own 9],fun q S=>∃(i:Nat) (now:Int) (out:List bD),i≤s.aa.length∧q=s.aa.length-i∧fy now=0∧out.length=i∧rE s pt.aT aC now (s.aa.drop i) out=R∧
  S=St.mk' [(1,nI aC),(2,.ptr (.own 2) 0),(9,.ptr (.own 9) 0),(10,nI now),(11,.own 10 (out.map bD.enc)),(40,.p (.sl 22 (s.aa.map aj.enc))),(41,nI s.aa.length),(42,nI i)] [(.own 2,.pure 27 s.enc),(.own 9,.pure 78 pt.enc)],
  ⟨_,0,UJ,[],by omega,rfl,NX,rfl,by rw[KE];exact hR,by rw[KE];rfl⟩,?_⟩
 rintro q S ⟨i,now,out,hi,rfl,Y9,iz,aw,rfl⟩;refine ab (fun h=>?_) (fun h=>?_)
 ·have h:=of_decide_eq_true h;have mW:i<s.aa.length:=by omega
  have wW:=hC.ep;rw[aF mW]at aw;have cV:=av mW;obtain⟨m,hm⟩:∃m,m=s.aa.getD i default:=⟨_,rfl⟩
  rw[←hm]at aw cV;have bU:=hC.cells m cV;have NY:=hC.NV m cV;obtain⟨c,hc⟩:∃c,c=m.Cells.getD aC default:=⟨_,rfl⟩
  have h29:=Ur m aC now 0 (pk.aa.2 m cV);have e29:yV m aC now 0=(gR 0 now c.bm,0):=by
   unfold yV;rw[if_neg (by unfold qU;rw[aX];simp;omega),if_neg (by rw[Y9];simp)];rw[hc];all_goals rfl
  rw[e29]at h29;have aw:rE s pt.aT aC (l9 now (m.Cells.getD aC default)) (s.aa.drop (i+1)) (out++ [uk s pt.aT now m (m.Cells.getD aC default)])=R:=aw;rw[←hc]at aw NY;have JQ:=NW now c Y9 (fun x hx=>(NY x hx).1);have II:c∈m.Cells:=by rw[hc];exact av bU
  have abq:=((pk.aa.2 m cV).Cells.2 c II).bm.1;have fF:=ao aI.enc m.Cells aC bU;rw[←hc]at fF;refine⟨m.enc,by rw[hm];exact ao _ _ _ mW,?_⟩;refine⟨rfl,?_⟩;refine⟨rfl,?_⟩;refine⟨_,h29,?_⟩;refine ab (fun h=>by cases h) (fun _=>?_);have HZ:(((out.map bD.enc).length+1)*80≤140737488355328):=by
   simp;omega
  have abr:s.Written=true→JJ 30 [nI m.dO,.agg pt.aT.enc] [] (.dE [nI (jt m.dO pt.aT).1,nI 0]) []:=fun hw=>by
   have:=G6 m.dO pt.aT;rw[PT hw m cV]at this;exact this
  refine ab (fun hw=>?_) (fun hw=>?_)
  ·have hw:s.Written=true:=hw;have Pk:uk s pt.aT now m c=⟨gR 0 now c.bm,(jt m.dO pt.aT).1,m.bC⟩:=by unfold uk wG;rw[if_pos hw]
   rw[Pk]at aw;refine⟨_,abr hw,?_⟩;refine ab (fun h=>by cases h) (fun _=>?_);refine⟨HZ,(out++ [(⟨gR 0 now c.bm,(jt m.dO pt.aT).1,m.bC⟩:bD)]).map bD.enc,by rw[List.map_append];rfl,?_⟩;refine⟨_,fF,?_⟩;refine⟨_,al _ _,?_⟩;refine ab (fun h=>?_) (fun h=>?_)
   ·have h:=of_decide_eq_true h;have sg:l9 now c=(c.bm.getD (c.bm.length-1) default).fq:=by unfold l9;rw[if_pos (by omega)]
    rw[sg]at aw JQ;refine⟨_,al _ _,?_⟩;refine⟨((c.bm.length-1:Nat):Int),by rw[wrap_i64 (by omega) (by omega)];omega,?_⟩;refine⟨_,ao ba.enc c.bm (c.bm.length-1) (by omega),?_⟩;refine⟨_,wrap_i64 (by omega) (by omega),?_⟩;exact⟨s.aa.length-(i+1),by omega,i+1,_,_,by omega,rfl,JQ,by simp[iz],aw,rfl⟩
   ·have h:=of_decide_eq_false h;have sg:l9 now c=gR 0 now c.bm:=by unfold l9;rw[if_neg (by omega)]
    rw[sg]at aw JQ;refine⟨_,wrap_i64 (by omega) (by omega),?_⟩;exact⟨s.aa.length-(i+1),by omega,i+1,_,_,by omega,rfl,JQ,by simp[iz],aw,rfl⟩
  ·have hw:s.Written=false:=hw;have Pk:uk s pt.aT now m c=⟨gR 0 now c.bm,m.dO,m.bC⟩:=by unfold uk wG;rw[if_neg (by rw[hw];simp)]
   rw[Pk]at aw;refine⟨HZ,(out++ [(⟨gR 0 now c.bm,m.dO,m.bC⟩:bD)]).map bD.enc,by rw[List.map_append];rfl,?_⟩;refine⟨_,fF,?_⟩;refine⟨_,al _ _,?_⟩;refine ab (fun h=>?_) (fun h=>?_)
   ·have h:=of_decide_eq_true h;have sg:l9 now c=(c.bm.getD (c.bm.length-1) default).fq:=by unfold l9;rw[if_pos (by omega)]
    rw[sg]at aw JQ;refine⟨_,al _ _,?_⟩;refine⟨((c.bm.length-1:Nat):Int),by rw[wrap_i64 (by omega) (by omega)];omega,?_⟩;refine⟨_,ao ba.enc c.bm (c.bm.length-1) (by omega),?_⟩;refine⟨_,wrap_i64 (by omega) (by omega),?_⟩;exact⟨s.aa.length-(i+1),by omega,i+1,_,_,by omega,rfl,JQ,by simp[iz],aw,rfl⟩
   ·have h:=of_decide_eq_false h;have sg:l9 now c=gR 0 now c.bm:=by unfold l9;rw[if_neg (by omega)]
    rw[sg]at aw JQ;refine⟨_,wrap_i64 (by omega) (by omega),?_⟩;exact⟨s.aa.length-(i+1),by omega,i+1,_,_,by omega,rfl,JQ,by simp[iz],aw,rfl⟩
 ·have h:=of_decide_eq_false h;obtain rfl:i=s.aa.length:=by omega
  rw[List.drop_length]at aw;have aw:out=R:=aw;subst aw;exact⟨rfl,rfl⟩
theorem UK(s:ae)(hV:JJ 6 [.agg s.enc] [] (nB true) [])(aC:Int)(hp:s.ay.length≤1000)(hC:(s.partOf aC).2.2≠0):
  JJ 8 [.agg s.enc,nI aC] [] (.dE [.p (.sl 10 []),nI 2]) []:=by
 have j5:(1000:Nat)≤maxLen:=by decide
 refine JJ.intro Tryz.func8 rfl rfl rfl rfl ?_;refine⟨_,hV,?_⟩;refine ab (fun h=>by cases h) (fun _=>?_);refine⟨_,CZ s aC (by omega),?_⟩;refine ab (fun h=>?_) (fun h=>?_)
 ·exact⟨rfl,rfl⟩
 ·exact absurd (by simpa using(show((s.partOf aC).2.2 !=0)=false from h)) hC
open Go.Proofs
def rF:Int×Int→List ba→Int×Int
 | s,[]=>s
 | s,x::r=>rF (x.fq,if x.At=0 then x.fq else s.2) r
theorem y9:∀(l:List ba) (s:Int×Int),(∀x∈l,0≤x.At)→(rF s l).2=gR 0 s.2 l
 | [],s,_=>rfl
 | x::r,s,h=>by
  show(rF (x.fq,if x.At=0 then x.fq else s.2) r).2=gR 0 (if x.At≤0 then x.fq else s.2) r;rw[y9 r _ (fun y hy=>h y (by simp[hy]))];have h0:=h x (by simp);by_cases hx:x.At=0
  ·rw[if_pos hx,if_pos (by omega)]
  ·rw[if_neg hx,if_neg (by omega)]
theorem Ba:∀(l:List ba) (s:Int×Int),(rF s l).1=if l.length>0 then(l.getD (l.length-1) default).fq else s.1
 | [],s=>rfl
 | [x],s=>rfl
 | x::y::r,s=>by
  show(rF _ (y::r)).1=_;rw[Ba (y::r)];all_goals rfl
theorem NZ(now:Int)(c:aI):l9 now c=(rF (now,now) c.bm).1:=by
 rw[Ba];unfold l9;split
 ·rfl
 ·rename_i h;have:c.bm= []:=List.eq_nil_of_length_eq_zero (by omega);rw[this];all_goals rfl
set_option maxHeartbeats 4000000 in
theorem UL(s:ae)(aC p k:Nat)(hC:NT s aC p k):
  JJ 12 [.agg s.enc,nI aC] [] (.dE [.p (.sl 10 ((KD s aC p k).map bD.enc)),nI 0]) []:=by
 have fw:maxLen≤9223372036854775807:=by decide
 have j5:(1000:Nat)≤maxLen:=by decide
 have pk:=hC.wf;have K5:=hC.parts;have h36:=NS s aC (by omega);rw[hC.owner]at h36;have j3:=hC.bG;refine JJ.intro Tryz.func12 rfl rfl rfl rfl ?_;refine⟨_,fun _=>yN s (by omega),?_⟩;refine ab (fun h=>?_) (fun _=>?_)
 ·have h:(bif decide ((aC:Int)<0)then true else decide ((aC:Int)≥s.bG))=true:=h;rw[aX]at h;simp at h;omega
 refine⟨_,h36,?_⟩;refine⟨_,ao cf.enc s.ay p hC.hp,?_⟩;refine⟨_,ao ee.enc (s.ay.getD p default).aL k hC.hk,?_⟩;unfold KD;have NX:=hC.NU;have PT:=hC.trans;have X9:=ao cf.enc s.ay p hC.hp;obtain⟨pt,Pg⟩:∃x,x=s.ay.getD p default:=⟨_,rfl⟩
 rw[←Pg]at NX PT X9 ⊢;obtain⟨UJ,KE⟩:∃x,x=(pt.aL.getD k default).fq:=⟨_,rfl⟩
 obtain⟨R,hR⟩:∃R,rE s pt.aT aC (pt.aL.getD k default).fq s.aa []=R:=⟨_,rfl⟩
 rw[hR];refine⟨[1,2,6,8,9,10],[.own 2],fun q S=>∃(i:Nat) (now:Int) (out:List bD),i≤s.aa.length∧q=s.aa.length-i∧out.length=i∧rE s pt.aT aC now (s.aa.drop i) out=R∧
  S=St.mk' [(1,nI aC),(2,.ptr (.own 2) 0),(6,nI p),(8,nI now),(9,.own 10 (out.map bD.enc)),(10,nI i)] [(.own 2,.pure 27 s.enc)],
  ⟨_,0,UJ,[],by omega,rfl,rfl,by rw[KE];exact hR,by rw[KE];rfl⟩,?_⟩
 rintro q S ⟨i,now,out,hi,rfl,iz,aw,rfl⟩;refine⟨_,al _ _,?_⟩;refine ab (fun h=>?_) (fun h=>?_)
 ·have h:=of_decide_eq_true h;have mW:i<s.aa.length:=by omega
  have wW:=hC.ep;rw[aF mW]at aw;have cV:=av mW;have N0:=ao aj.enc s.aa i mW;obtain⟨m,hm⟩:∃m,m=s.aa.getD i default:=⟨_,rfl⟩
  rw[←hm]at aw cV N0;have bU:=hC.cells m cV;have NY:=hC.NV m cV;have fF:=ao aI.enc m.Cells aC bU;have II:=av bU;have aw:rE s pt.aT aC (l9 now (m.Cells.getD aC default)) (s.aa.drop (i+1)) (out++ [uk s pt.aT now m (m.Cells.getD aC default)])=R:=aw;obtain⟨c,hc⟩:∃c,c=m.Cells.getD aC default:=⟨_,rfl⟩
  rw[←hc]at aw NY fF II;have abq:=((pk.aa.2 m cV).Cells.2 c II).bm.1;have e1:=y9 c.bm (now,now) (fun x hx=>(NY x hx).2);rw[NZ]at aw;have TN:uk s pt.aT now m c=⟨(rF (now,now) c.bm).2,wG s pt.aT m,m.bC⟩:=by unfold uk;rw[e1]
  rw[TN]at aw;obtain⟨Z,hZ⟩:∃Z,rF (now,now) c.bm=Z:=⟨_,rfl⟩
  rw[hZ]at aw;refine⟨_,N0,?_⟩;refine⟨rfl,?_⟩;refine⟨rfl,?_⟩;refine⟨_,fF,?_⟩;refine⟨[1,2,6,8,9,10,11,12,13,14],[.own 2,.own 11,.own 12],fun q S=>∃(j:Nat) (z:Int×Int),j≤c.bm.length∧q=c.bm.length-j∧rF z (c.bm.drop j)=Z∧
   S=St.mk' [(1,nI aC),(2,.ptr (.own 2) 0),(6,nI p),(8,nI z.1),(9,.own 10 (out.map bD.enc)),(10,nI i),(11,.ptr (.own 11) 0),(12,.ptr (.own 12) 0),(13,.p (.sl 2 (c.bm.map ba.enc))),(14,nI j)]
    [(.own 2,.pure 27 s.enc),(.own 11,.pure 82 m.enc),(.own 12,.pure 53 (bD.mk z.2 m.dO m.bC).enc)],⟨_,0,(now,now),by omega,rfl,hZ,rfl⟩,?_⟩
  rintro q S ⟨j,z,hj,rfl,fh,rfl⟩;refine⟨_,al _ _,?_⟩;refine ab (fun h=>?_) (fun h=>?_)
  ·have h:=of_decide_eq_true h;have DG:j<c.bm.length:=by omega
   rw[aF DG]at fh;have bW:=ao ba.enc c.bm j DG;obtain⟨x,hx⟩:∃x,x=c.bm.getD j default:=⟨_,rfl⟩
   rw[←hx]at fh bW;have fh:rF (x.fq,if x.At=0 then x.fq else z.2) (c.bm.drop (j+1))=Z:=fh;refine⟨_,bW,?_⟩;refine⟨_,bW,?_⟩;refine ab (fun h=>?_) (fun h=>?_)
   ·have h:(x.At==0)=true:=h;rw[if_pos (by simpa using h)]at fh;refine⟨_,wrap_i64 (by omega) (by omega),?_⟩;exact⟨c.bm.length-(j+1),by omega,j+1,_,by omega,rfl,fh,rfl⟩
   ·have h:(x.At==0)=false:=h;rw[if_neg (by simpa using h)]at fh;refine⟨_,wrap_i64 (by omega) (by omega),?_⟩;exact⟨c.bm.length-(j+1),by omega,j+1,_,by omega,rfl,fh,rfl⟩
  ·have h:=of_decide_eq_false h;obtain rfl:j=c.bm.length:=by omega
   rw[List.drop_length]at fh;have fh:z=Z:=fh;subst fh;have HZ:(((out.map bD.enc).length+1)*80≤140737488355328):=by
    simp;omega
   refine ab (fun hw=>?_) (fun hw=>?_)
   ·have hw:s.Written=true:=hw;have Pk:wG s pt.aT m=(jt m.dO pt.aT).1:=by unfold wG;rw[if_pos hw]
    rw[Pk]at aw;have h30:=G6 m.dO pt.aT;rw[PT hw m cV]at h30;refine⟨rfl,?_⟩;refine⟨_,X9,?_⟩;refine⟨_,h30,?_⟩;refine ab (fun h=>by cases h) (fun _=>?_);refine⟨HZ,(out++ [(⟨z.2,(jt m.dO pt.aT).1,m.bC⟩:bD)]).map bD.enc,by rw[List.map_append];rfl,?_⟩;refine⟨_,wrap_i64 (by omega) (by omega),?_⟩;exact⟨s.aa.length-(i+1),by omega,i+1,_,_,by omega,rfl,by simp[iz],aw,rfl⟩
   ·have hw:s.Written=false:=hw;have Pk:wG s pt.aT m=m.dO:=by unfold wG;rw[if_neg (by rw[hw];simp)]
    rw[Pk]at aw;refine⟨HZ,(out++ [(⟨z.2,m.dO,m.bC⟩:bD)]).map bD.enc,by rw[List.map_append];rfl,?_⟩;refine⟨_,wrap_i64 (by omega) (by omega),?_⟩;exact⟨s.aa.length-(i+1),by omega,i+1,_,_,by omega,rfl,by simp[iz],aw,rfl⟩
 ·have h:=of_decide_eq_false h;obtain rfl:i=s.aa.length:=by omega
  rw[List.drop_length]at aw;have aw:out=R:=aw;subst aw;exact⟨rfl,rfl⟩
theorem Rl(s:ae)(aC:Int)(hp:s.ay.length≤1000)(hC:aC<0∨s.bG≤aC):
  JJ 12 [.agg s.enc,nI aC] [] (.dE [.p (.sl 10 []),nI 2]) []:=by
 have j5:(1000:Nat)≤maxLen:=by decide
 refine JJ.intro Tryz.func12 rfl rfl rfl rfl ?_;refine⟨_,fun _=>yN s (by omega),?_⟩;refine ab (fun h=>?_) (fun h=>?_)
 ·exact⟨rfl,rfl⟩
 ·have h:(bif decide (aC<0)then true else decide (aC≥s.bG))=false:=h;rw[aX]at h;simp at h;omega
open Go.Proofs
def ma(v:Nat):List aS→List dX→List dX
 | [],out=>out
 | h::r,out=>ma v r (if h.dQ=true then out++ [⟨v,h.aB⟩]else out)
def dk(v:ax):List aS:=if v.ak.length=0 then []else(v.ak.getD (v.ak.length-1) default).aE
def ou:Nat→List ax→List dX→List dX
 | _,[],out=>out
 | k,v::r,out=>ou (k+1) r (ma k (dk v) out)
theorem ov(v:Nat):∀(l:List aS) (out:List dX),(ma v l out).length≤out.length+l.length
 | [],out=>Nat.le_refl _
 | h::r,out=>by
  refine Nat.le_trans (ov v r _) ?_;split
  ·rw[List.length_append,List.length_singleton,List.length_cons];omega
  ·rw[List.length_cons];omega
theorem za:∀(l:List ax) (k:Nat) (out:List dX),(∀v∈l,(dk v).length≤1000)→(ou k l out).length≤out.length+1000*l.length
 | [],k,out,_=>Nat.le_refl _
 | v::r,k,out,h=>by
  refine Nat.le_trans (za r (k+1) _ (fun y hy=>h y (by simp[hy]))) ?_;have:=ov k (dk v) out;have:=h v (by simp);simp;omega
structure Hj(s:ae)(i aC:Nat):Prop where
 parts:s.ay.length≤1000
 pos:0<i
 hi:i<s.aa.length
 abt:s.aa.length≤1000
 bG:(aC:Int)<s.bG
 cell:aC<(s.aa.getD (i-1) default).Cells.length
 abu:(s.aa.getD (i-1) default).Cells.length≤1000
 dI:((s.aa.getD (i-1) default).Cells.getD aC default).ai.length≤1000
 eF:∀v∈((s.aa.getD (i-1) default).Cells.getD aC default).ai,v.ak.length≤1000∧(dk v).length≤1000
def Bb(s:ae)(i aC:Nat):List dX:=ou 0 ((s.aa.getD (i-1) default).Cells.getD aC default).ai []
set_option maxHeartbeats 4000000 in
theorem Ya(s:ae)(hV:JJ 6 [.agg s.enc] [] (nB true) [])(i aC:Nat)(hC:Hj s i aC):
  JJ 9 [.agg s.enc,nI i,nI aC] [] (.dE [.p (.sl 4 ((Bb s i aC).map dX.enc)),nI 0]) []:=by
 have fw:maxLen≤9223372036854775807:=by decide
 have j5:(1000:Nat)≤maxLen:=by decide
 obtain⟨c1,c2,c3,c4,c5,c6,c7,c8,c9⟩:=hC;refine JJ.intro Tryz.func9 rfl rfl rfl rfl ?_;refine⟨_,hV,?_⟩;refine ab (fun h=>by cases h) (fun _=>?_);refine⟨_,fun _=>al _ _,?_⟩;refine⟨_,fun _=>vy s (by omega),?_⟩;refine ab (fun h=>?_) (fun _=>?_)
 ·have h:(bif(bif(bif decide ((i:Int)<0)then true else decide ((i:Int)≥(s.aa.length:Int)))then true else decide ((aC:Int)<0))then true else decide ((aC:Int)≥s.bG))=true:=h;simp only[aX,Bool.or_eq_true,Bool.or_eq_false_iff,decide_eq_true_eq,decide_eq_false_iff_not]at h;omega
 refine ab (fun h=>?_) (fun _=>?_)
 ·have h:((i:Int)==0)=true:=h;simp at h;omega
 refine⟨((i-1:Nat):Int),by rw[wrap_i64 (by omega) (by omega)];omega,?_⟩;refine⟨_,ao aj.enc s.aa (i-1) (by omega),?_⟩;unfold Bb;obtain⟨m,hm⟩:∃m,m=s.aa.getD (i-1) default:=⟨_,rfl⟩
 rw[←hm]at c6 c7 c8 c9 ⊢;refine⟨_,ao aI.enc m.Cells aC c6,?_⟩;obtain⟨c,hc⟩:∃c,c=m.Cells.getD aC default:=⟨_,rfl⟩
 rw[←hc]at c8 c9 ⊢;refine⟨_,al _ _,?_⟩;obtain⟨R,hR⟩:∃R,ou 0 c.ai []=R:=⟨_,rfl⟩
 rw[hR];refine⟨[8,50,51,52],[],fun q S=>∃(k:Nat) (out:List dX),k≤c.ai.length∧q=c.ai.length-k∧out.length≤1000*k∧ou k (c.ai.drop k) out=R∧
  S=St.mk' [(8,.own 4 (out.map dX.enc)),(50,.p (.sl 2 (c.ai.map ax.enc))),(51,nI c.ai.length),(52,nI k)] [],
  ⟨_,0,[],by omega,rfl,by simp,hR,rfl⟩,?_⟩
 rintro q S ⟨k,out,hk,rfl,iz,aw,rfl⟩;refine ab (fun h=>?_) (fun h=>?_)
 ·have h:=of_decide_eq_true h;have b9:k<c.ai.length:=by omega
  rw[aF b9]at aw;have cV:=av b9;have bW:=ao ax.enc c.ai k b9;obtain⟨v,hv⟩:∃v,v=c.ai.getD k default:=⟨_,rfl⟩
  rw[←hv]at aw cV bW;obtain⟨e1,e2⟩:=c9 v cV;have aw:ou (k+1) (c.ai.drop (k+1)) (ma k (dk v) out)=R:=aw;have hlen:=ov k (dk v) out;obtain⟨Z,hZ⟩:∃Z,ma k (dk v) out=Z:=⟨_,rfl⟩
  rw[hZ]at aw hlen;refine⟨_,bW,?_⟩;refine⟨rfl,?_⟩;refine⟨_,al _ _,?_⟩;refine ab (fun h=>?_) (fun h=>?_)
  ·have h:((v.ak.length:Int)==0)=true:=h;have h:v.ak.length=0:=by simpa using h
   have hl:dk v= []:=by unfold dk;rw[if_pos h]
   rw[hl]at hZ;have hZ:out=Z:=hZ;subst hZ;refine⟨_,wrap_i64 (by omega) (by omega),?_⟩;exact⟨c.ai.length-(k+1),by omega,k+1,_,by omega,rfl,by omega,aw,rfl⟩
  ·have h:((v.ak.length:Int)==0)=false:=h;have h:v.ak.length≠0:=by simpa using h
   have hl:dk v=(v.ak.getD (v.ak.length-1) default).aE:=by unfold dk;rw[if_neg h]
   rw[hl]at hZ e2;refine⟨_,al _ _,?_⟩;refine⟨((v.ak.length-1:Nat):Int),by rw[wrap_i64 (by omega) (by omega)];omega,?_⟩;refine⟨_,ao aD.enc v.ak (v.ak.length-1) (by omega),?_⟩;refine⟨_,al _ _,?_⟩;obtain⟨l,hL⟩:∃l,l=(v.ak.getD (v.ak.length-1) default).aE:=⟨_,rfl⟩
   rw[←hL]at hZ e2 ⊢;refine⟨[8,9,50,51,52,69,70,71],[],fun q S=>∃(j:Nat) (o:List dX),j≤l.length∧q=l.length-j∧o.length≤1000*k+j∧ma k (l.drop j) o=Z∧
    S=St.mk' [(8,.own 4 (o.map dX.enc)),(9,nI k),(50,.p (.sl 2 (c.ai.map ax.enc))),(51,nI c.ai.length),(52,nI k),(69,.p (.sl 5 (l.map aS.enc))),(70,nI l.length),(71,nI j)] [],
    ⟨_,0,out,by omega,rfl,by omega,hZ,by rw[hL];rfl⟩,?_⟩
   rintro q S ⟨j,o,hj,rfl,Pf,fh,rfl⟩;refine ab (fun h=>?_) (fun h=>?_)
   ·have h:=of_decide_eq_true h;have DG:j<l.length:=by omega
    rw[aF DG]at fh;have bW:=ao aS.enc l j DG;obtain⟨y,hy⟩:∃y,y=l.getD j default:=⟨_,rfl⟩
    rw[←hy]at fh bW;have fh:ma k (l.drop (j+1)) (if y.dQ=true then o++ [⟨k,y.aB⟩]else o)=Z:=fh;refine⟨_,bW,?_⟩;refine⟨rfl,?_⟩;refine ab (fun ht=>?_) (fun ht=>?_)
    ·have ht:y.dQ=true:=ht;rw[if_pos ht]at fh;refine⟨by show((o.map dX.enc).length+1)*32≤140737488355328;rw[List.length_map];omega,(o++ [(⟨k,y.aB⟩:dX)]).map dX.enc,by rw[List.map_append];rfl,?_⟩;refine⟨_,wrap_i64 (by omega) (by omega),?_⟩;exact⟨_,by omega,j+1,_,by omega,rfl,by simp;omega,fh,rfl⟩
    ·have ht:y.dQ=false:=ht;rw[if_neg (by rw[ht];simp)]at fh;refine⟨_,wrap_i64 (by omega) (by omega),?_⟩;exact⟨_,by omega,j+1,_,by omega,rfl,by omega,fh,rfl⟩
   ·have h:=of_decide_eq_false h;obtain rfl:j=l.length:=by omega
    rw[List.drop_length]at fh;have fh:o=Z:=fh;subst fh;refine⟨_,wrap_i64 (by omega) (by omega),?_⟩;exact⟨c.ai.length-(k+1),by omega,k+1,_,by omega,rfl,by omega,aw,rfl⟩
 ·have h:=of_decide_eq_false h;obtain rfl:k=c.ai.length:=by omega
  rw[List.drop_length]at aw;have aw:out=R:=aw;subst aw;exact⟨rfl,rfl⟩
theorem Rm(s:ae)(hV:JJ 6 [.agg s.enc] [] (nB true) [])(aC:Int)(hp:s.ay.length≤1000)(h0:0<s.aa.length)(h1:0≤aC∧aC<s.bG):
  JJ 9 [.agg s.enc,nI 0,nI aC] [] (.dE [.p (.sl 4 []),nI 0]) []:=by
 have j5:(1000:Nat)≤maxLen:=by decide
 refine JJ.intro Tryz.func9 rfl rfl rfl rfl ?_;refine⟨_,hV,?_⟩;refine ab (fun h=>by cases h) (fun _=>?_);refine⟨_,fun _=>al _ _,?_⟩;refine⟨_,fun _=>vy s (by omega),?_⟩;refine ab (fun h=>?_) (fun _=>?_)
 ·have h:(bif(bif(bif decide ((0:Int)<0)then true else decide ((0:Int)≥(s.aa.length:Int)))then true else decide ((aC:Int)<0))then true else decide ((aC:Int)≥s.bG))=true:=h;simp only[aX,Bool.or_eq_true,Bool.or_eq_false_iff,decide_eq_true_eq,decide_eq_false_iff_not]at h;omega
 refine ab (fun _=>?_) (fun h=>by cases h);exact⟨rfl,rfl⟩
def qV(s:ae)(i aC:Int):Prop:=i<0∨(s.aa.length:Int)≤i∨aC<0∨s.bG≤aC
theorem UM(s:ae)(hV:JJ 6 [.agg s.enc] [] (nB true) [])(i aC:Int)(hp:s.ay.length≤1000)(hb:qV s i aC):
  JJ 9 [.agg s.enc,nI i,nI aC] [] (.dE [.p (.sl 4 []),nI 2]) []:=by
 have j5:(1000:Nat)≤maxLen:=by decide
 unfold qV at hb;refine JJ.intro Tryz.func9 rfl rfl rfl rfl ?_;refine⟨_,hV,?_⟩;refine ab (fun h=>by cases h) (fun _=>?_);refine⟨_,fun _=>al _ _,?_⟩;refine⟨_,fun _=>vy s (by omega),?_⟩;refine ab (fun h=>?_) (fun h=>?_)
 ·exact⟨rfl,rfl⟩
 ·have h:(bif(bif(bif decide (i<0)then true else decide (i≥(s.aa.length:Int)))then true else decide ((aC:Int)<0))then true else decide ((aC:Int)≥s.bG))=false:=h;simp only[aX,Bool.or_eq_true,Bool.or_eq_false_iff,decide_eq_true_eq,decide_eq_false_iff_not]at h;omega
theorem Rn(s:ae)(i aC:Int)(hp:s.ay.length≤1000)(hb:qV s i aC):
  JJ 13 [.agg s.enc,nI i,nI aC] [] (.dE [.p (.sl 4 []),nI 2]) []:=by
 have j5:(1000:Nat)≤maxLen:=by decide
 unfold qV at hb;refine JJ.intro Tryz.func13 rfl rfl rfl rfl ?_;refine⟨_,fun _=>al _ _,?_⟩;refine⟨_,fun _=>yN s (by omega),?_⟩;refine ab (fun h=>?_) (fun h=>?_)
 ·exact⟨rfl,rfl⟩
 ·have h:(bif(bif(bif decide (i<0)then true else decide (i≥(s.aa.length:Int)))then true else decide ((aC:Int)<0))then true else decide ((aC:Int)≥s.bG))=false:=h;simp only[aX,Bool.or_eq_true,Bool.or_eq_false_iff,decide_eq_true_eq,decide_eq_false_iff_not]at h;omega
theorem N1(s:ae)(aC:Int)(hp:s.ay.length≤1000)(h0:0<s.aa.length)(h1:0≤aC∧aC<s.bG):
  JJ 13 [.agg s.enc,nI 0,nI aC] [] (.dE [.p (.sl 4 []),nI 0]) []:=by
 have j5:(1000:Nat)≤maxLen:=by decide
 refine JJ.intro Tryz.func13 rfl rfl rfl rfl ?_;refine⟨_,fun _=>al _ _,?_⟩;refine⟨_,fun _=>yN s (by omega),?_⟩;refine ab (fun h=>?_) (fun _=>?_)
 ·have h:(bif(bif(bif decide ((0:Int)<0)then true else decide ((0:Int)≥(s.aa.length:Int)))then true else decide ((aC:Int)<0))then true else decide ((aC:Int)≥s.bG))=true:=h;simp only[aX,Bool.or_eq_true,Bool.or_eq_false_iff,decide_eq_true_eq,decide_eq_false_iff_not]at h;omega
 refine ab (fun _=>?_) (fun h=>by cases h);exact⟨rfl,rfl⟩
set_option maxHeartbeats 4000000 in
theorem UN(s:ae)(i aC:Nat)(hC:Hj s i aC):
  JJ 13 [.agg s.enc,nI i,nI aC] [] (.dE [.p (.sl 4 ((Bb s i aC).map dX.enc)),nI 0]) []:=by
 have fw:maxLen≤9223372036854775807:=by decide
 have j5:(1000:Nat)≤maxLen:=by decide
 obtain⟨c1,c2,c3,c4,c5,c6,c7,c8,c9⟩:=hC;refine JJ.intro Tryz.func13 rfl rfl rfl rfl ?_;refine⟨_,fun _=>al _ _,?_⟩;refine⟨_,fun _=>yN s (by omega),?_⟩;refine ab (fun h=>?_) (fun _=>?_)
 ·have h:(bif(bif(bif decide ((i:Int)<0)then true else decide ((i:Int)≥(s.aa.length:Int)))then true else decide ((aC:Int)<0))then true else decide ((aC:Int)≥s.bG))=true:=h;simp only[aX,Bool.or_eq_true,Bool.or_eq_false_iff,decide_eq_true_eq,decide_eq_false_iff_not]at h;omega
 refine ab (fun h=>?_) (fun _=>?_)
 ·have h:((i:Int)==0)=true:=h;simp at h;omega
 refine⟨((i-1:Nat):Int),by rw[wrap_i64 (by omega) (by omega)];omega,?_⟩;refine⟨_,ao aj.enc s.aa (i-1) (by omega),?_⟩;unfold Bb;obtain⟨m,hm⟩:∃m,m=s.aa.getD (i-1) default:=⟨_,rfl⟩
 rw[←hm]at c6 c7 c8 c9 ⊢;refine⟨_,ao aI.enc m.Cells aC c6,?_⟩;obtain⟨c,hc⟩:∃c,c=m.Cells.getD aC default:=⟨_,rfl⟩
 rw[←hc]at c8 c9 ⊢;refine⟨rfl,?_⟩;obtain⟨R,hR⟩:∃R,ou 0 c.ai []=R:=⟨_,rfl⟩
 rw[hR];refine⟨[8,9,10],[.own 9],fun q S=>∃(k:Nat) (out:List dX),k≤c.ai.length∧q=c.ai.length-k∧out.length≤1000*k∧ou k (c.ai.drop k) out=R∧
  S=St.mk' [(8,.own 4 (out.map dX.enc)),(9,.ptr (.own 9) 0),(10,nI k)] [(.own 9,.pure 86 c.enc)],
  ⟨_,0,[],by omega,rfl,by simp,hR,rfl⟩,?_⟩
 rintro q S ⟨k,out,hk,rfl,iz,aw,rfl⟩;refine⟨_,al _ _,?_⟩;refine ab (fun h=>?_) (fun h=>?_)
 ·have h:=of_decide_eq_true h;have b9:k<c.ai.length:=by omega
  rw[aF b9]at aw;have cV:=av b9;have bW:=ao ax.enc c.ai k b9;obtain⟨v,hv⟩:∃v,v=c.ai.getD k default:=⟨_,rfl⟩
  rw[←hv]at aw cV bW;obtain⟨e1,e2⟩:=c9 v cV;have aw:ou (k+1) (c.ai.drop (k+1)) (ma k (dk v) out)=R:=aw;have hlen:=ov k (dk v) out;obtain⟨Z,hZ⟩:∃Z,ma k (dk v) out=Z:=⟨_,rfl⟩
  rw[hZ]at aw hlen;refine⟨_,bW,?_⟩;refine⟨_,al _ _,?_⟩;refine ab (fun h=>?_) (fun h=>?_)
  ·have h:=of_decide_eq_true h;have hl:dk v=(v.ak.getD (v.ak.length-1) default).aE:=by unfold dk;rw[if_neg (by omega)]
   rw[hl]at hZ e2;refine⟨_,bW,?_⟩;refine⟨((v.ak.length-1:Nat):Int),by rw[wrap_i64 (by omega) (by omega)];omega,?_⟩;refine⟨_,ao aD.enc v.ak (v.ak.length-1) (by omega),?_⟩;obtain⟨l,hL⟩:∃l,l=(v.ak.getD (v.ak.length-1) default).aE:=⟨_,rfl⟩
   rw[←hL]at hZ e2;refine⟨[8,9,10,12,13],[.own 9],fun q S=>∃(j:Nat) (o:List dX),j≤l.length∧q=l.length-j∧o.length≤1000*k+j∧ma k (l.drop j) o=Z∧
    S=St.mk' [(8,.own 4 (o.map dX.enc)),(9,.ptr (.own 9) 0),(10,nI k),(12,.p (.sl 5 (l.map aS.enc))),(13,nI j)] [(.own 9,.pure 86 c.enc)],
    ⟨_,0,out,by omega,rfl,by omega,hZ,by rw[hL];rfl⟩,?_⟩
   rintro q S ⟨j,o,hj,rfl,Pf,fh,rfl⟩;refine⟨_,al _ _,?_⟩;refine ab (fun h=>?_) (fun h=>?_)
   ·have h:=of_decide_eq_true h;have DG:j<l.length:=by omega
    rw[aF DG]at fh;have bW:=ao aS.enc l j DG;obtain⟨y,hy⟩:∃y,y=l.getD j default:=⟨_,rfl⟩
    rw[←hy]at fh bW;have fh:ma k (l.drop (j+1)) (if y.dQ=true then o++ [⟨k,y.aB⟩]else o)=Z:=fh;refine⟨_,bW,?_⟩;refine ab (fun ht=>?_) (fun ht=>?_)
    ·have ht:y.dQ=true:=ht;rw[if_pos ht]at fh;refine⟨_,bW,?_⟩;refine⟨by show((o.map dX.enc).length+1)*32≤140737488355328;rw[List.length_map];omega,(o++ [(⟨k,y.aB⟩:dX)]).map dX.enc,by rw[List.map_append];rfl,?_⟩;refine⟨_,wrap_i64 (by omega) (by omega),?_⟩;exact⟨_,by omega,j+1,_,by omega,rfl,by simp;omega,fh,rfl⟩
    ·have ht:y.dQ=false:=ht;rw[if_neg (by rw[ht];simp)]at fh;refine⟨_,wrap_i64 (by omega) (by omega),?_⟩;exact⟨_,by omega,j+1,_,by omega,rfl,by omega,fh,rfl⟩
   ·have h:=of_decide_eq_false h;obtain rfl:j=l.length:=by omega
    rw[List.drop_length]at fh;have fh:o=Z:=fh;subst fh;refine⟨_,wrap_i64 (by omega) (by omega),?_⟩;exact⟨c.ai.length-(k+1),by omega,k+1,_,by omega,rfl,by omega,aw,rfl⟩
  ·have h:=of_decide_eq_false h;have hl:dk v= []:=by unfold dk;rw[if_pos (by omega)]
   rw[hl]at hZ;have hZ:out=Z:=hZ;subst hZ;refine⟨_,wrap_i64 (by omega) (by omega),?_⟩;exact⟨c.ai.length-(k+1),by omega,k+1,_,by omega,rfl,by omega,aw,rfl⟩
 ·have h:=of_decide_eq_false h;obtain rfl:k=c.ai.length:=by omega
  rw[List.drop_length]at aw;have aw:out=R:=aw;subst aw;exact⟨rfl,rfl⟩
open Go.Proofs
def jV(id:cP)(i c v:Nat):List aD→List Int→Option bV
 | e::es,o::os=>if e.ID=id then some ⟨i,o,c,v⟩else jV id i c v es os
 | _,_=>none
def jW(id:cP)(len:Int)(i c:Nat):Nat→List ax→Option bV
 | _,[]=>none
 | v,x::r=>(jV id i c v x.ak (cm x len).1).or (jW id len i c (v+1) r)
def mb(id:cP)(len:Int)(i:Nat):Nat→List aI→Option bV
 | _,[]=>none
 | c,x::r=>(jW id len i c 0 x.ai).or (mb id len i (c+1) r)
def vD(id:cP):Nat→List aj→Option bV
 | _,[]=>none
 | i,m::r=>(mb id m.len i 0 m.Cells).or (vD id (i+1) r)
def ae.find(s:ae)(id:cP):Option bV:=vD id 0 s.aa
def N2(o:Option bV):AV:=match o with
 | some p=> .dE [.agg p.enc,nB true]
 | none=> .dE [.agg (bV.mk 0 0 0 0).enc,nB false]
abbrev SI(o:Option bV)(S:St):Prop:=pB te [.cell 4 61,.tmp 5] 0 (fun agf bs=>agf=N2 o∧bs= []) .ret S
theorem idB(a b:cP):(a.Site==b.Site&&a.Number==b.Number)=decide (a=b):=by
 cases a;cases b;rw[Bool.eq_iff_iff];simp[cP.mk.injEq]
theorem Fe{id:cP}{i c v k:Nat}{es:List aD}{os:List Int}(h1:k<es.length)(h2:k<os.length):
  jV id i c v (es.drop k) (os.drop k)=if(es.getD k default).ID=id then some ⟨i,os.getD k default,c,v⟩else jV id i c v (es.drop (k+1)) (os.drop (k+1)):=by
 rw[aF h1,aF h2];all_goals rfl
theorem Hk{id:cP}{i c v k:Nat}{es:List aD}{os:List Int}(h:es.length≤k∨os.length≤k):jV id i c v (es.drop k) (os.drop k)=none:=by
 rcases h with h | h
 ·rw[List.drop_eq_nil_of_le h];rfl
 ·rw[List.drop_eq_nil_of_le h];cases es.drop k<;>rfl
abbrev Ro(s:ae)(id:cP)(i:Nat)(len:Int)(e:Int)(c v:Nat)(x:ax)(os:List Int)(k:Nat):St:=
 St.mk' [(2,.ptr (.own 2) 0),(3,.ptr (.own 3) 0),(4,.ptr (.own 4) 0),(6,nI i),(7,nI len),(9,nI c),(10,nI v),(11,.ptr (.own 11) 0),(12,.p (.sl 1 (os.map cB))),(14,nI k)]
  [(.own 2,.pure 27 s.enc),(.own 3,.pure 70 id.enc),(.own 4,.pure 61 (bV.mk 0 0 0 0).enc),(.own 11,.pure 91 x.enc)]
set_option maxHeartbeats 2000000 in
theorem Yb{Q:Ex→St→Prop}(s:ae)(id:cP)(i:Nat)(len e:Int)(c v:Nat)(x:ax)(os:List Int)(k:Nat)(Wb:x.ak.length≤maxLen)(iz:os.length≤maxLen)
  (hX:x.ak.length≤k∨os.length≤k→ ∀v1 v2 v3 v4 v5 v6 v7 v8 v9 v10 v11:AV,Q (.exit 6) (((((((((((((((((Ro s id i len e c v x os k).put 76 v1).put 77 v2).put 78 v3).put 79 v4).put 80 v5).put 81 v6).cA 81).put 82 v7).cA 81).put 83 v8).cA 81).put 84 v9).cA 81).put 85 v10).put 86 v11).unlock))
  (hR:∀S p,jV id i c v (x.ak.drop k) (os.drop k)=some p→SI (some p) S→Q .ret S)
  (hN:∀S,k<x.ak.length→jV id i c v (x.ak.drop k) (os.drop k)=jV id i c v (x.ak.drop (k+1)) (os.drop (k+1))→
   S.bM [2,3,4,6,7,9,10,11,12,14] [.own 2,.own 3,.own 4,.own 11]=Ro s id i len e c v x os (k+1)→Q .normal S):
  oK te JJ (cX Tryz.f38 [1,0,1,0,0,1,0,0,1,1,0,0,1,0,0,1,0,0,1,0,0,1,1,1,0,0]) (Ro s id i len e c v x os k) Q:=by
 have fw:maxLen≤9223372036854775807:=by decide
 refine⟨_,al _ _,?_⟩;refine⟨_,fun _=>al _ _,?_⟩;refine ab (fun h=>?_) (fun h=>?_)
 ·have h:(bif decide ((k:Int)<x.ak.length)then decide ((k:Int)<os.length)else false)=true:=h;rw[aR,Bool.and_eq_true,decide_eq_true_eq,decide_eq_true_eq]at h;have h1:k<x.ak.length:=by omega
  have h2:k<os.length:=by omega
  have hd:=Fe (id:=id) (i:=i) (c:=c) (v:=v) h1 h2;have bW:=ao aD.enc x.ak k h1;have hio:=ao cB os k h2;obtain⟨y,hy⟩:∃y,y=x.ak.getD k default:=⟨_,rfl⟩
  rw[←hy]at bW hd;obtain⟨o,ho⟩:∃o,o=os.getD k default:=⟨_,rfl⟩
  rw[←ho]at hio hd;refine⟨rfl,?_⟩;refine⟨_,bW,?_⟩;refine ab (fun h=>?_) (fun h=>?_)
  ·have h:y.ID=id:=of_decide_eq_true ((idB y.ID id).symm.trans h);rw[if_pos h]at hd;refine⟨_,hio,?_⟩;refine⟨rfl,?_⟩;exact hR _ _ hd ⟨rfl,rfl⟩
  ·have h:¬y.ID=id:=of_decide_eq_false ((idB y.ID id).symm.trans h);rw[if_neg h]at hd;refine⟨_,wrap_i64 (by omega) (by omega),?_⟩;exact hN _ h1 hd rfl
 ·have h:(bif decide ((k:Int)<x.ak.length)then decide ((k:Int)<os.length)else false)=false:=h;rw[aR,Bool.and_eq_false_iff,decide_eq_false_iff_not,decide_eq_false_iff_not]at h;exact hX (by omega) _ _ _ _ _ _ _ _ _ _ _
abbrev IJ(s:ae)(id:cP)(i:Nat)(len:Int)(c v:Nat):St:=
 St.mk' [(2,.ptr (.own 2) 0),(3,.ptr (.own 3) 0),(4,.ptr (.own 4) 0),(6,nI i),(7,nI len),(9,nI c),(10,nI v)]
  [(.own 2,.pure 27 s.enc),(.own 3,.pure 70 id.enc),(.own 4,.pure 61 (bV.mk 0 0 0 0).enc)]
set_option maxHeartbeats 2000000 in
theorem Yc{Q:Ex→St→Prop}(s:ae)(id:cP)(i:Nat)(len:Int)(c v:Nat)(m:aj)(d:aI)(hi:i<s.aa.length)(hm:m=s.aa.getD i default)
  (hc:c<m.Cells.length) (hd:d=m.Cells.getD c default) (hw:d.wf) (hv:v≤d.ai.length)
  (hX:v=d.ai.length→ ∀v1 v2 v3 v4 v5 v6 v7 v8 v9 v10 v11 Ia Lf:AV,Q (.exit 4) ((((((((((((((IJ s id i len c v).put 42 v1).put 43 v2).put 44 v3).put 45 v4).put 46 v5).put 47 v6).put 48 v7).put 49 v8).put 50 v9).put 51 v10).put 52 v11).put 53 Ia).put 54 Lf))
  (hR:∀S p,jW id len i c v (d.ai.drop v)=some p→SI (some p) S→Q .ret S)
  (hN:∀S,v<d.ai.length→jW id len i c v (d.ai.drop v)=jW id len i c (v+1) (d.ai.drop (v+1))→
   S.bM [2,3,4,6,7,9,10] [.own 2,.own 3,.own 4]=IJ s id i len c (v+1)→Q .normal S):
  oK te JJ (cX Tryz.f38 [1,0,1,0,0,1,0,0,1,1,0,0,1,0,0,1,0,0]) (IJ s id i len c v) Q:=by
 have fw:maxLen≤9223372036854775807:=by decide
 have bW:=ao aj.enc s.aa i hi;rw[←hm]at bW;have fF:=ao aI.enc m.Cells c hc;rw[←hd]at fF;have GR:=hw.ai.1;refine⟨_,bW,?_⟩;refine⟨_,fF,?_⟩;refine⟨_,al _ _,?_⟩;refine ab (fun h=>?_) (fun h=>?_)
 ·have h:=of_decide_eq_true h;have aN:v<d.ai.length:=by omega
  have Mk:=aF aN;have gL:=ao ax.enc d.ai v aN;have cV:=av aN;obtain⟨x,hx⟩:∃x,x=d.ai.getD v default:=⟨_,rfl⟩
  rw[←hx]at gL Mk cV;have Lh:=hw.ai.2 x cV;have Rp:=yT x len Lh;have iz:=kL x len;have uM:jW id len i c v (d.ai.drop v)=(jV id i c v x.ak (cm x len).1).or (jW id len i c (v+1) (d.ai.drop (v+1))):=by rw[Mk];rfl
  obtain⟨os,D8⟩:∃os,os=(cm x len).1:=⟨_,rfl⟩
  rw[←D8]at iz uM;have hmx:(1000:Nat)≤maxLen:=by decide
  refine⟨_,bW,?_⟩;refine⟨_,fF,?_⟩;refine⟨_,gL,?_⟩;refine⟨rfl,?_⟩;refine⟨_,Rp,?_⟩;refine⟨[2,3,4,6,7,9,10,11,12,14],[.own 2,.own 3,.own 4,.own 11],fun q S=>∃k:Nat,k≤x.ak.length∧q=x.ak.length-k∧jV id i c v (x.ak.drop k) (os.drop k)=jV id i c v x.ak os∧S=Ro s id i len 0 c v x os k,
   ⟨_,0,by omega,rfl,rfl,by rw[D8];rfl⟩,?_⟩
  rintro q S ⟨k,hk,rfl,aw,rfl⟩;refine Yb s id i len 0 c v x os k Lh.ak.1 (by omega) (fun he v1 v2 v3 v4 v5 v6 v7 v8 v9 v10 v11=>?_) (fun S p he hE=>?_) (fun S aN he hk=>?_)
  ·rw[Hk he]at aw;rw[←aw]at uM;refine⟨_,wrap_i64 (by omega) (by omega),?_⟩;exact hN _ aN uM rfl
  ·rw[←aw,he]at uM;exact hR S p uM hE
  ·exact⟨x.ak.length-(k+1),by omega,k+1,by omega,rfl,by rw[←he];exact aw,hk⟩
 ·have h:=of_decide_eq_false h;have fQ:v=d.ai.length:=by omega
  exact hX fQ _ _ _ _ _ _ _ _ _ _ _ _ _
set_option maxHeartbeats 2000000 in
theorem N3(s:ae)(id:cP)(hw:s.wf):JJ 38 [.agg s.enc,.agg id.enc] [] (N2 (s.find id)) []:=by
 have fw:maxLen≤9223372036854775807:=by decide
 have SH:=hw.aa.1;refine JJ.intro Tryz.func38 rfl rfl rfl rfl ?_;obtain⟨R,hR⟩:∃R,s.find id=R:=⟨_,rfl⟩
 rw[hR];refine⟨[2,3,4,6],[.own 2,.own 3,.own 4],fun q S=>∃i:Nat,i≤s.aa.length∧q=s.aa.length-i∧vD id i (s.aa.drop i)=R∧
  S=St.mk' [(2,.ptr (.own 2) 0),(3,.ptr (.own 3) 0),(4,.ptr (.own 4) 0),(6,nI i)] [(.own 2,.pure 27 s.enc),(.own 3,.pure 70 id.enc),(.own 4,.pure 61 (bV.mk 0 0 0 0).enc)],
  ⟨_,0,by omega,rfl,hR,rfl⟩,?_⟩
 rintro q S ⟨i,hi,rfl,aw,rfl⟩;refine⟨_,al _ _,?_⟩;refine ab (fun h=>?_) (fun h=>?_)
 ·have h:=of_decide_eq_true h;have aN:i<s.aa.length:=by omega
  have bW:=ao aj.enc s.aa i aN;have cV:=av aN;rw[aF aN]at aw;obtain⟨m,hm⟩:∃m,m=s.aa.getD i default:=⟨_,rfl⟩
  rw[←hm]at bW cV aw;have sO:=hw.aa.2 m cV;have Yd:=kU m sO.bC.Unit;have dP:=sO.Cells.1;have aw:(mb id m.len i 0 m.Cells).or (vD id (i+1) (s.aa.drop (i+1)))=R:=aw;refine⟨_,bW,?_⟩;refine⟨_,Yd,?_⟩;refine⟨[2,3,4,6,7,9],[.own 2,.own 3,.own 4],fun q S=>∃c:Nat,c≤m.Cells.length∧q=m.Cells.length-c∧mb id m.len i c (m.Cells.drop c)=mb id m.len i 0 m.Cells∧
   S=St.mk' [(2,.ptr (.own 2) 0),(3,.ptr (.own 3) 0),(4,.ptr (.own 4) 0),(6,nI i),(7,nI m.len),(9,nI c)] [(.own 2,.pure 27 s.enc),(.own 3,.pure 70 id.enc),(.own 4,.pure 61 (bV.mk 0 0 0 0).enc)],
   ⟨_,0,by omega,rfl,rfl,rfl⟩,?_⟩
  rintro q S ⟨c,hc,rfl,j6,rfl⟩;refine⟨_,bW,?_⟩;refine⟨_,al _ _,?_⟩;refine ab (fun h=>?_) (fun h=>?_)
  ·have h:=of_decide_eq_true h;have N4:c<m.Cells.length:=by omega
   have SJ:=av N4;rw[aF N4]at j6;obtain⟨d,hd⟩:∃d,d=m.Cells.getD c default:=⟨_,rfl⟩
   rw[←hd]at SJ j6;have j6:(jW id m.len i c 0 d.ai).or (mb id m.len i (c+1) (m.Cells.drop (c+1)))=mb id m.len i 0 m.Cells:=j6;have hdw:=sO.Cells.2 d SJ;have GR:=hdw.ai.1;refine⟨[2,3,4,6,7,9,10],[.own 2,.own 3,.own 4],fun q S=>∃v:Nat,v≤d.ai.length∧q=d.ai.length-v∧jW id m.len i c v (d.ai.drop v)=jW id m.len i c 0 d.ai∧S=IJ s id i m.len c v,
    ⟨_,0,by omega,rfl,rfl,rfl⟩,?_⟩
   rintro q S ⟨v,hv,rfl,jZ,rfl⟩;refine Yc s id i m.len c v m d aN hm N4 hd hdw hv (fun he v1 v2 v3 v4 v5 v6 v7 v8 v9 v10 v11 Ia Lf=>?_) (fun S p he hE=>?_) (fun S Rq he hk=>?_)
   ·rw[he,List.drop_length]at jZ;have jZ:none=jW id m.len i c 0 d.ai:=jZ;rw[←jZ]at j6;refine⟨_,wrap_i64 (by omega) (by omega),?_⟩;exact⟨m.Cells.length-(c+1),by omega,c+1,by omega,rfl,j6,rfl⟩
   ·rw[←jZ,he]at j6;rw[←j6]at aw;have aw:some p=R:=aw;rw[←aw];exact hE
   ·exact⟨d.ai.length-(v+1),by omega,v+1,by omega,rfl,by rw[←he];exact jZ,hk⟩
  ·have h:=of_decide_eq_false h;obtain rfl:c=m.Cells.length:=by omega
   rw[List.drop_length]at j6;have j6:none=mb id m.len i 0 m.Cells:=j6;rw[←j6]at aw;refine⟨_,wrap_i64 (by omega) (by omega),?_⟩;exact⟨s.aa.length-(i+1),by omega,i+1,by omega,rfl,aw,rfl⟩
 ·have h:=of_decide_eq_false h;obtain rfl:i=s.aa.length:=by omega
  rw[List.drop_length]at aw;have aw:none=R:=aw;rw[←aw];refine⟨rfl,?_⟩;exact⟨rfl,rfl⟩
open Go.Proofs
def Bc(o:Option bV):bV:=o.getD ⟨0,0,0,0⟩
def ae.kq(s:ae)(l:List br):List cr:=l.map fun x=>⟨x.Kind,Bc (s.find x.dR),Bc (s.find x.To)⟩
theorem N5(o:Option bV):N2 o= .dE [.agg (Bc o).enc,nB o.isSome]:=by
 cases o<;>rfl
set_option maxHeartbeats 2000000 in
theorem UO(s:ae)(hw:s.wf)(hl:s.au.length≤100000):JJ 19 [.agg s.enc] [] (.p (.sl 9 ((s.kq s.au).map cr.enc))) []:=by
 refine JJ.intro Tryz.func19 rfl rfl rfl rfl ?_;have fw:maxLen≤9223372036854775807:=by decide
 refine⟨[1,3,4],[.own 1],fun q S=>∃i:Nat,i≤s.au.length∧q=s.au.length-i∧
  S=St.mk' [(1,.ptr (.own 1) 0),(3,.own 9 ((s.kq (s.au.take i)).map cr.enc)),(4,nI i)] [(.own 1,.pure 27 s.enc)],⟨_,0,by omega,rfl,rfl⟩,?_⟩
 rintro q S ⟨i,hi,rfl,rfl⟩;refine⟨_,al _ _,?_⟩;refine ab (fun hc=>?_) (fun hc=>?_)
 ·have hc:=of_decide_eq_true hc;have mW:i<s.au.length:=by omega
  have bW:=ao br.enc s.au i mW;have oY:(s.kq (s.au.take i)).map cr.enc++ [(⟨(s.au.getD i default).Kind,Bc (s.find (s.au.getD i default).dR),Bc (s.find (s.au.getD i default).To)⟩:cr).enc]=(s.kq (s.au.take (i+1))).map cr.enc:=by
   unfold ae.kq;rw[List.take_add_one,List.getElem?_eq_getElem mW];have:s.au[i]=s.au.getD i default:=by rw[List.getD_eq_getElem?_getD,List.getElem?_eq_getElem mW];rfl
   rw[this];simp
  have hlen:(s.kq (s.au.take i)).length≤100000:=by
   unfold ae.kq;rw[List.length_map,List.length_take];omega
  obtain⟨x,hx⟩:∃x,x=s.au.getD i default:=⟨_,rfl⟩
  rw[←hx]at oY bW;have ha:=N3 s x.dR hw;have hb:=N3 s x.To hw;rw[N5]at ha hb;obtain⟨a,hA⟩:∃a,s.find x.dR=a:=⟨_,rfl⟩
  obtain⟨b,hB⟩:∃b,s.find x.To=b:=⟨_,rfl⟩
  rw[hA,hB]at oY;rw[hA]at ha;rw[hB]at hb;refine⟨rfl,?_⟩;refine⟨_,bW,?_⟩;refine⟨_,ha,?_⟩;refine⟨rfl,?_⟩;refine⟨rfl,?_⟩;refine⟨_,bW,?_⟩;refine⟨_,hb,?_⟩;refine⟨rfl,?_⟩;refine⟨rfl,?_⟩;refine⟨_,bW,?_⟩;refine⟨?_,_,oY,?_⟩
  ·show(((s.kq (s.au.take i)).map cr.enc).length+1)*72≤140737488355328;rw[List.length_map];omega
  refine⟨_,wrap_i64 (by omega) (by omega),?_⟩;exact⟨s.au.length-(i+1),by omega,i+1,by omega,rfl,rfl⟩
 ·have hc:=of_decide_eq_false hc;obtain rfl:i=s.au.length:=by omega
  rw[List.take_length];exact⟨rfl,rfl⟩
def ae.vo(s:ae)(i c v:Nat):ax:=(((s.aa.getD i default).Cells.getD c default).ai).getD v default
def ae.ev(s:ae)(i c v x:Nat):aD:=(s.vo i c v).ak.getD x default
def ae.kx(s:ae)(i c:Nat):Nat:=((s.aa.getD i default).Cells.getD c default).ai.length
def ae.before(s:ae)(i c v x:Nat):List aS:=
 if 0<x then(s.ev i c v (x-1)).aE
 else if 0<i∧v<s.kx (i-1) c∧0<(s.vo (i-1) c v).ak.length then(s.ev (i-1) c v ((s.vo (i-1) c v).ak.length-1)).aE else []
def bh(p:aH):List aS→Bool
 | []=>false
 | h::r=>if h.dQ=true∧h.aB=p then true else bh p r
theorem Rr(a b:aH):(a.Step==b.Step&&(a.gJ==b.gJ&&a.eU==b.eU))=decide (a=b):=by
 cases a;cases b;rw[Bool.eq_iff_iff];simp[aH.mk.injEq]
structure At(s:ae)(i c v x:Nat):Prop where
 hi:i<s.aa.length
 hc:c<(s.aa.getD i default).Cells.length
 hv:v<s.kx i c
 hx:x<(s.vo i c v).ak.length
abbrev N6(p:aH)(b:aD)(k:Nat):St:=
 St.mk' [(11,.ptr (.own 11) 0),(13,.ptr (.own 13) 0),(16,nI k)] [(.own 11,.pure 56 p.enc),(.own 13,.pure 111 b.enc)]
set_option maxHeartbeats 2000000 in
theorem SK{Q:Ex→St→Prop}(p:aH)(b:aD)(k:Nat)(hl:b.aE.length≤maxLen)
  (hX:b.aE.length≤k→ ∀v1 v2 v3 v4 v5:AV,Q (.exit 1) ((((((N6 p b k).put 98 v1).put 99 v2).put 100 v3).put 101 v4).put 102 v5))
  (hR:∀S,bh p (b.aE.drop k)=true→pB te [.tmp 12] 0 (fun agf bs=>agf=nB true∧bs= []) .ret S→Q .ret S)
  (hN:∀S,k<b.aE.length→bh p (b.aE.drop k)=bh p (b.aE.drop (k+1))→S.bM [11,13,16] [.own 11,.own 13]=N6 p b (k+1)→Q .normal S):
  oK te JJ (cX Tryz.f40 [1,1,1,1,0,1,0,0]) (N6 p b k) Q:=by
 have fw:maxLen≤9223372036854775807:=by decide
 refine⟨_,al _ _,?_⟩;refine ab (fun h=>?_) (fun h=>?_)
 ·have h:=of_decide_eq_true h;have aN:k<b.aE.length:=by omega
  have bW:=ao aS.enc b.aE k aN;have hd:=aF aN;obtain⟨y,hy⟩:∃y,y=b.aE.getD k default:=⟨_,rfl⟩
  rw[←hy]at bW hd;have ht:bh p (b.aE.drop k)=if y.dQ=true∧y.aB=p then true else bh p (b.aE.drop (k+1)):=by rw[hd];rfl
  refine⟨rfl,?_⟩;refine⟨_,bW,?_⟩;refine⟨_,fun _=>bW,?_⟩;refine ab (fun h=>?_) (fun h=>?_)
  ·have h:(bif y.dQ then(y.aB.Step==p.Step&&(y.aB.gJ==p.gJ&&y.aB.eU==p.eU))else false)=true:=h;rw[Rr,aR,Bool.and_eq_true,decide_eq_true_eq]at h;rw[if_pos h]at ht;exact hR _ ht ⟨rfl,rfl⟩
  ·have h:(bif y.dQ then(y.aB.Step==p.Step&&(y.aB.gJ==p.gJ&&y.aB.eU==p.eU))else false)=false:=h;rw[Rr,aR]at h;have h:¬(y.dQ=true∧y.aB=p):=fun e=>by
    rw[decide_eq_true e.2,e.1]at h;cases h
   rw[if_neg h]at ht;refine⟨_,wrap_i64 (by omega) (by omega),?_⟩;exact hN _ aN ht rfl
 ·have h:=of_decide_eq_false h;exact hX (by omega) _ _ _ _ _
set_option maxHeartbeats 4000000 in
theorem UP(s:ae)(i c v x:Nat)(p:aH)(hw:s.wf)(hA:At s i c v x)(FD:0<i→c<(s.aa.getD (i-1) default).Cells.length):
  JJ 40 [.agg s.enc,nI i,nI c,nI v,nI x,.agg p.enc] [] (nB (bh p (s.before i c v x))) []:=by
 have fw:maxLen≤9223372036854775807:=by decide
 obtain⟨h1,h2,h3,h4⟩:=hA;have l1:=hw.aa.1;have sO:=hw.aa.2 _ (av h1);have pk:=sO.Cells.2 _ (av h2);have wV:(s.vo i c v).wf:=pk.ai.2 _ (av h3);have l2:=sO.Cells.1;have l3:=pk.ai.1;have l4:=wV.ak.1;obtain⟨R,hR⟩:∃R,bh p (s.before i c v x)=R:=⟨_,rfl⟩
 rw[hR];refine JJ.intro Tryz.func40 rfl rfl rfl rfl ?_;refine⟨_,ao aj.enc s.aa i h1,?_⟩;refine⟨_,ao aI.enc _ c h2,?_⟩;refine⟨_,ao ax.enc _ v h3,?_⟩;refine ab (fun h=>?_) (fun h=>?_)
 ·have h:=of_decide_eq_true h;have Wq:0<x:=by omega
  refine⟨((x-1:Nat):Int),by rw[wrap_i64 (by omega) (by omega)];omega,?_⟩;refine⟨_,ao aD.enc (s.vo i c v).ak (x-1) (by omega),?_⟩;have Ye:=wV.ak.2 _ (av (show x-1<(s.vo i c v).ak.length by omega));unfold ae.before ae.ev at hR;rw[if_pos Wq]at hR;obtain⟨b,hb⟩:∃b,b=(s.vo i c v).ak.getD (x-1) default:=⟨_,rfl⟩
  rw[←hb]at hR Ye;have DF:=Ye.aE.1;refine⟨by rw[←hb];rfl,?_⟩;refine⟨[11,13,16],[.own 11,.own 13],fun q S=>∃k:Nat,k≤b.aE.length∧q=b.aE.length-k∧bh p (b.aE.drop k)=R∧S=N6 p b k,
   ⟨_,0,by omega,rfl,hR,by rw[hb];rfl⟩,?_⟩
  rintro q S ⟨k,hk,rfl,aw,rfl⟩;refine SK p b k DF (fun he v1 v2 v3 v4 v5=>?_) (fun S he hE=>?_) (fun S aN he hk=>?_)
  ·rw[List.drop_eq_nil_of_le he]at aw;have aw:false=R:=aw;rw[←aw];exact⟨rfl,rfl⟩
  ·rw[←aw,he];exact hE
  ·exact⟨b.aE.length-(k+1),by omega,k+1,by omega,rfl,by rw[←he];exact aw,hk⟩
 ·have h:=of_decide_eq_false h;have Wq:¬0<x:=by omega
  unfold ae.before ae.ev at hR;rw[if_neg Wq]at hR;have g1:∀h:decide ((i:Int)>0)=true,0<i:=fun h=>by have:=of_decide_eq_true h;omega
  refine⟨((i-1:Nat):Int),fun h=>by have:=g1 h;rw[wrap_i64 (by omega) (by omega)];omega,?_⟩;refine⟨(s.aa.getD (i-1) default).enc,fun h=>ao aj.enc s.aa (i-1) (by have:=g1 h;omega),?_⟩;refine⟨((s.aa.getD (i-1) default).Cells.getD c default).enc,fun h=>ao aI.enc _ c (FD (g1 h)),?_⟩;refine⟨(s.kx (i-1) c:Int),fun h=>al _ _,?_⟩;have g2:∀h:(bif decide ((i:Int)>0)then decide ((v:Int)<(s.kx (i-1) c:Int))else false)=true,0<i∧v<s.kx (i-1) c:=fun h=>by
   rw[aR,Bool.and_eq_true,decide_eq_true_eq,decide_eq_true_eq]at h;omega
  refine⟨((i-1:Nat):Int),fun h=>by have:=g2 h;rw[wrap_i64 (by omega) (by omega)];omega,?_⟩;refine⟨(s.aa.getD (i-1) default).enc,fun h=>ao aj.enc s.aa (i-1) (by have:=g2 h;omega),?_⟩;refine⟨((s.aa.getD (i-1) default).Cells.getD c default).enc,fun h=>ao aI.enc _ c (FD (g2 h).1),?_⟩;refine⟨(s.vo (i-1) c v).enc,fun h=>ao ax.enc _ v (g2 h).2,?_⟩;refine⟨((s.vo (i-1) c v).ak.length:Int),fun h=>al _ _,?_⟩;refine ab (fun h=>?_) (fun h=>?_)
  ·have h:(bif(bif decide ((i:Int)>0)then decide ((v:Int)<(s.kx (i-1) c:Int))else false)then decide (((s.vo (i-1) c v).ak.length:Int)>0)else false)=true:=h;simp only[aR,Bool.and_eq_true,decide_eq_true_eq]at h;have h5:0<i:=by omega
   have h6:v<s.kx (i-1) c:=by omega
   have h7:0<(s.vo (i-1) c v).ak.length:=by omega
   rw[if_pos ⟨h5,h6,h7⟩]at hR;have abv:=hw.aa.2 _ (av (show i-1<s.aa.length by omega));have abw:=abv.Cells.2 _ (av (FD h5));have Yf:(s.vo (i-1) c v).wf:=abw.ai.2 _ (av h6);have afq:=Yf.ak.1;refine⟨((i-1:Nat):Int),by rw[wrap_i64 (by omega) (by omega)];omega,?_⟩;refine⟨_,ao aj.enc s.aa (i-1) (by omega),?_⟩;refine⟨_,ao aI.enc _ c (FD h5),?_⟩;refine⟨_,ao ax.enc _ v h6,?_⟩;refine⟨((s.vo (i-1) c v).ak.length:Int),al _ _,?_⟩;refine⟨(((s.vo (i-1) c v).ak.length-1:Nat):Int),by rw[wrap_i64 (by omega) (by omega)];omega,?_⟩;refine⟨_,ao aD.enc (s.vo (i-1) c v).ak _ (by omega),?_⟩;have Ye:=Yf.ak.2 _ (av (show(s.vo (i-1) c v).ak.length-1<(s.vo (i-1) c v).ak.length by omega));obtain⟨b,hb⟩:∃b,b=(s.vo (i-1) c v).ak.getD ((s.vo (i-1) c v).ak.length-1) default:=⟨_,rfl⟩
   rw[←hb]at hR Ye;have DF:=Ye.aE.1;refine⟨by rw[←hb];rfl,?_⟩;refine⟨[11,13,16],[.own 11,.own 13],fun q S=>∃k:Nat,k≤b.aE.length∧q=b.aE.length-k∧bh p (b.aE.drop k)=R∧S=N6 p b k,
    ⟨_,0,by omega,rfl,hR,by rw[hb];rfl⟩,?_⟩
   rintro q S ⟨k,hk,rfl,aw,rfl⟩;refine SK p b k DF (fun he v1 v2 v3 v4 v5=>?_) (fun S he hE=>?_) (fun S aN he hk=>?_)
   ·rw[List.drop_eq_nil_of_le he]at aw;have aw:false=R:=aw;rw[←aw];exact⟨rfl,rfl⟩
   ·rw[←aw,he];exact hE
   ·exact⟨b.aE.length-(k+1),by omega,k+1,by omega,rfl,by rw[←he];exact aw,hk⟩
  ·have h:(bif(bif decide ((i:Int)>0)then decide ((v:Int)<(s.kx (i-1) c:Int))else false)then decide (((s.vo (i-1) c v).ak.length:Int)>0)else false)=false:=h;have h5:¬(0<i∧v<s.kx (i-1) c∧0<(s.vo (i-1) c v).ak.length):=fun e=>by
    rw[aR,aR,decide_eq_true (by omega),decide_eq_true (by omega),decide_eq_true (by omega)]at h;cases h
   rw[if_neg h5]at hR;have hR:false=R:=hR;rw[←hR];refine⟨[13,16],[.own 13],fun q S=>S=St.mk' [(13,.ptr (.own 13) 0),(16,nI 0)] [(.own 13,.mix 111 t111.zero)],⟨0,rfl⟩,?_⟩;rintro q S rfl;refine⟨_,rfl,?_⟩;refine ab (fun h=>by cases h) (fun _=>?_);exact⟨rfl,rfl⟩
open Go.Proofs
def ae.iy(s:ae)(i c v:Nat):List Int:=(cm (s.vo i c v) (s.aa.getD i default).len).1
def ae.lens(s:ae)(i c v:Nat):List Int:=(bu (s.vo i c v) (s.aa.getD i default).len).1
def ae.mH(s:ae)(c v:Nat)(p:aH):Nat→Nat→Nat→Int
 | 0,_,_=>0
 | n+1,i,x=>if i<s.aa.length∧v<s.kx i c then
   if((s.vo i c v).ak.length≤x∨(s.iy i c v).length≤x)∨(s.lens i c v).length≤x then 0
   else if bh p (s.ev i c v x).aE=false then IntKind.i64.wrap (IntKind.i64.wrap (s.bf.getD i default+(s.iy i c v).getD x default)+(s.lens i c v).getD x default)
   else if x+1=(s.vo i c v).ak.length then s.mH c v p n (i+1) 0 else s.mH c v p n i (x+1)
  else 0
def ae.ending(s:ae)(i c v x:Nat)(p:aH):Int:=s.mH c v p (1001*s.aa.length+1002) i x
def vE(p:aH):Bool→List aS→Bool
 | t,[]=>t
 | t,h::r=>vE p (bif t then true else(bif(decide (h.aB=p))then h.dQ else false)) r
theorem Bd(p:aH):∀(l:List aS) (t:Bool),vE p t l=(t||bh p l)
 | [],t=>by cases t<;>rfl
 | h::r,t=>by
  show vE p _ r=_;rw[Bd p r];show _=(t||(if h.dQ=true∧h.aB=p then true else bh p r));cases t with
  | true=>rfl
  | false=>
   by_cases h1:h.aB=p
   ·cases h2:h.dQ with
    | true=>rw[if_pos ⟨rfl,h1⟩,decide_eq_true h1];rfl
    | false=>rw[if_neg (by simp),decide_eq_true h1];rfl
   ·rw[if_neg (fun e=>h1 e.2),decide_eq_false h1];rfl
abbrev abx(s:ae)(p:aH)(i c v x:Nat):St:=
 St.mk' [(1,nI i),(2,nI c),(3,nI v),(4,nI x),(6,.ptr (.own 6) 0),(11,.ptr (.own 11) 0),(13,.p (.sl 1 (s.bf.map cB)))] [(.own 6,.pure 27 s.enc),(.own 11,.pure 56 p.enc)]
set_option maxHeartbeats 4000000 in
theorem UQ(s:ae)(i c v x:Nat)(p:aH)(hw:s.wf)(hl:s.aa.length≤100000)(kC:s.bf.length=s.aa.length+1)(hi:i≤s.aa.length)(hx:x≤1000)
  (bU:∀i,i<s.aa.length→c<(s.aa.getD i default).Cells.length) (dq:∀i,i<s.aa.length→v<s.kx i c→(s.vo i c v).ak.length≤1000):
  JJ 43 [.agg s.enc,nI i,nI c,nI v,nI x,.agg p.enc] [] (nI (s.ending i c v x p)) []:=by
 have fw:maxLen≤9223372036854775807:=by decide
 have j5:(100000:Nat)≤maxLen:=by decide
 refine JJ.intro Tryz.func43 rfl rfl rfl rfl ?_;obtain⟨R,hR⟩:∃R,s.ending i c v x p=R:=⟨_,rfl⟩
 rw[hR];refine⟨_,Hi s hw hl,?_⟩;refine⟨[1,2,3,4,6,11,13],[.own 6,.own 11],fun q S=>∃(i x f:Nat),i≤s.aa.length∧x≤1000∧q=1001*(s.aa.length-i)+(1000-x)∧1001*(s.aa.length-i)+1001<f+x∧s.mH c v p f i x=R∧S=abx s p i c v x,
  ⟨_,i,x,1001*s.aa.length+1002,hi,hx,rfl,by omega,hR,rfl⟩,?_⟩
 rintro q S ⟨i,x,f,hi,hx,rfl,hf,aw,rfl⟩;refine⟨_,al _ _,?_⟩;have g1:∀h:decide ((i:Int)<s.aa.length)=true,i<s.aa.length:=fun h=>by have:=of_decide_eq_true h;omega
 refine⟨_,fun h=>ao aj.enc s.aa i (g1 h),?_⟩;refine⟨_,fun h=>ao aI.enc _ c (bU i (g1 h)),?_⟩;refine⟨(s.kx i c:Int),fun h=>al _ _,?_⟩;refine ab (fun h=>?_) (fun h=>?_)
 ·have h:(bif decide ((i:Int)<s.aa.length)then decide ((v:Int)<(s.kx i c:Int))else false)=true:=h;rw[aR,Bool.and_eq_true,decide_eq_true_eq,decide_eq_true_eq]at h;have h1:i<s.aa.length:=by omega
  have h2:=bU i h1;have h3:v<s.kx i c:=by omega
  have h5:=dq i h1 h3;have sO:=hw.aa.2 _ (av h1);have pk:=sO.Cells.2 _ (av h2);have wV:(s.vo i c v).wf:=pk.ai.2 _ (av h3);obtain⟨n,rfl⟩:∃n,f=n+1:=⟨f-1,by omega⟩
  unfold ae.mH at aw;rw[if_pos ⟨h1,h3⟩]at aw;have N0:=ao aj.enc s.aa i h1;have fF:=ao aI.enc _ c h2;have gL:=ao ax.enc _ v h3;obtain⟨V,hV⟩:∃V,V=s.vo i c v:=⟨_,rfl⟩
  have hV2:V=((s.aa.getD i default).Cells.getD c default).ai.getD v default:=hV;rw[←hV2]at gL;have N7:s.ev i c v x=V.ak.getD x default:=by rw[hV];rfl
  have Ff:s.iy i c v=(cm V (s.aa.getD i default).len).1:=by rw[hV];rfl
  have aby:s.lens i c v=(bu V (s.aa.getD i default).len).1:=by rw[hV];rfl
  rw[N7,Ff,aby,←hV]at aw;rw[←hV]at h5 wV;have Yd:=kU _ sO.bC.Unit;have Rp:=yT V (s.aa.getD i default).len wV;have h75:=Um V (s.aa.getD i default).len wV;have ol:=kL V (s.aa.getD i default).len;have ll:=oi V (s.aa.getD i default).len;obtain⟨O,D8⟩:∃O,cm V (s.aa.getD i default).len=O:=⟨_,rfl⟩
  obtain⟨K,P9⟩:∃K,bu V (s.aa.getD i default).len=K:=⟨_,rfl⟩
  rw[D8]at ol Rp;rw[P9]at ll h75;rw[D8,P9]at aw;obtain⟨os,oe⟩:=O;obtain⟨ls,le⟩:=K;have aw:(if(V.ak.length≤x∨os.length≤x)∨ls.length≤x then 0
   else if bh p (V.ak.getD x default).aE=false then IntKind.i64.wrap (IntKind.i64.wrap (s.bf.getD i default+os.getD x default)+ls.getD x default)
   else if x+1=V.ak.length then s.mH c v p n (i+1) 0 else s.mH c v p n i (x+1))=R:=aw
  have ol:os.length≤128:=ol;have ll:ls.length≤128:=ll;refine⟨_,N0,?_⟩;refine⟨_,fF,?_⟩;refine⟨_,gL,?_⟩;refine⟨rfl,?_⟩;refine⟨_,N0,?_⟩;refine⟨_,Yd,?_⟩;refine⟨_,Rp,?_⟩;refine⟨_,h75,?_⟩;refine⟨_,al _ _,?_⟩;refine⟨_,fun _=>al _ _,?_⟩;refine⟨_,fun _=>al _ _,?_⟩;refine ab (fun h=>?_) (fun h=>?_)
  ·have h:(bif(bif decide ((x:Int)≥V.ak.length)then true else decide ((x:Int)≥os.length))then true else decide ((x:Int)≥ls.length))=true:=h;simp only[aX,Bool.or_eq_true,decide_eq_true_eq]at h;rw[if_pos (by omega)]at aw;subst aw;exact⟨rfl,rfl⟩
  ·have h:(bif(bif decide ((x:Int)≥V.ak.length)then true else decide ((x:Int)≥os.length))then true else decide ((x:Int)≥ls.length))=false:=h;simp only[aX,Bool.or_eq_false_iff,decide_eq_false_iff_not]at h;have x1:x<V.ak.length:=by omega
   have x2:x<os.length:=by omega
   have x3:x<ls.length:=by omega
   rw[if_neg (by omega)]at aw;have ow:=ao aD.enc V.ak x x1;obtain⟨e,he⟩:∃e,e=V.ak.getD x default:=⟨_,rfl⟩
   rw[←he]at aw ow;have hew:=wV.ak.2 e (by rw[he];exact av x1);have hhl:=hew.aE.1;obtain⟨Z,hZ⟩:∃Z,vE p false e.aE=Z:=⟨_,rfl⟩
   have hZ2:Z=bh p e.aE:=by rw[←hZ,Bd];rfl
   rw[←hZ2]at aw;refine⟨[1,2,3,4,6,11,13,14,17,19,21,22],[.own 6,.own 11,.own 14],fun q S=>∃(k:Nat) (t:Bool),k≤e.aE.length∧q=e.aE.length-k∧vE p t (e.aE.drop k)=Z∧
    S=St.mk' [(1,nI i),(2,nI c),(3,nI v),(4,nI x),(6,.ptr (.own 6) 0),(11,.ptr (.own 11) 0),(13,.p (.sl 1 (s.bf.map cB))),(14,.ptr (.own 14) 0),(17,.p (.sl 1 (os.map cB))),(19,.p (.sl 1 (ls.map cB))),(21,nB t),(22,nI k)]
     [(.own 6,.pure 27 s.enc),(.own 11,.pure 56 p.enc),(.own 14,.pure 91 V.enc)],⟨_,0,false,by omega,rfl,hZ,rfl⟩,?_⟩
   rintro q S ⟨k,t,hk,rfl,Pn,rfl⟩;refine⟨_,ow,?_⟩;refine⟨_,al _ _,?_⟩;refine ab (fun h=>?_) (fun h=>?_)
   ·have h:=of_decide_eq_true h;have aN:k<e.aE.length:=by omega
    have KF:=ao aS.enc e.aE k aN;rw[aF aN]at Pn;obtain⟨y,hy⟩:∃y,y=e.aE.getD k default:=⟨_,rfl⟩
    rw[←hy]at Pn KF;have Pn:vE p (bif t then true else(bif(decide (y.aB=p))then y.dQ else false)) (e.aE.drop (k+1))=Z:=Pn;refine⟨rfl,?_⟩;refine⟨_,fun _=>ow,?_⟩;refine⟨_,fun _=>KF,?_⟩;refine⟨_,fun _ _=>ow,?_⟩;refine⟨_,fun _ _=>KF,?_⟩;rw[←Rr]at Pn;refine⟨_,wrap_i64 (by omega) (by omega),?_⟩;exact⟨e.aE.length-(k+1),by omega,k+1,_,by omega,rfl,Pn,rfl⟩
   ·have h:=of_decide_eq_false h;obtain rfl:k=e.aE.length:=by omega
    rw[List.drop_length]at Pn;have Pn:t=Z:=Pn;subst Pn;refine ab (fun h=>?_) (fun h=>?_)
    ·have h:t=false:=by simpa using(show(!t)=true from h)
     rw[if_pos h]at aw;refine⟨rfl,?_⟩;refine⟨_,ao cB s.bf i (by omega),?_⟩;refine⟨_,ao cB os x x2,?_⟩;refine⟨_,rfl,?_⟩;refine⟨_,ao cB ls x x3,?_⟩;refine⟨_,rfl,?_⟩;subst aw;exact⟨rfl,rfl⟩
    ·have h:t=true:=by simpa using(show(!t)=false from h)
     rw[if_neg (by rw[h];simp)]at aw;refine⟨((x+1:Nat):Int),by rw[wrap_i64 (by omega) (by omega)];omega,?_⟩;refine⟨_,al _ _,?_⟩;refine ab (fun h=>?_) (fun h=>?_)
     ·have h:(((x+1:Nat):Int)==(V.ak.length:Int))=true:=h;have h:x+1=V.ak.length:=by have:=eq_of_beq h;omega
      rw[if_pos h]at aw;refine⟨((i+1:Nat):Int),by rw[wrap_i64 (by omega) (by omega)];omega,?_⟩;exact⟨_,by omega,i+1,0,n,by omega,by omega,rfl,by omega,aw,rfl⟩
     ·have h:(((x+1:Nat):Int)==(V.ak.length:Int))=false:=h;have h:¬x+1=V.ak.length:=fun e=>by rw[e]at h;simp at h
      rw[if_neg h]at aw;exact⟨_,by omega,i,x+1,n,by omega,by omega,rfl,by omega,aw,rfl⟩
 ·have h:(bif decide ((i:Int)<s.aa.length)then decide ((v:Int)<(s.kx i c:Int))else false)=false:=h;have h1:¬(i<s.aa.length∧v<s.kx i c):=fun e=>by
   rw[aR,decide_eq_true (by omega),decide_eq_true (by omega)]at h;cases h
  obtain⟨n,rfl⟩:∃n,f=n+1:=⟨f-1,by omega⟩
  unfold ae.mH at aw;rw[if_neg h1]at aw;subst aw;exact⟨rfl,rfl⟩
open Go.Proofs
def ae.numOf(s:ae)(part:Int)(p:aH):Int:=if s.Written=true then IntKind.i64.wrap (nq p-(s.ay.getD part.toNat default).aT.ct)else nq p
def ae.qm(s:ae)(i c v k:Nat)(o:Int)(id:cP)(h:Nat)(p:aH):aq:=
 ⟨IntKind.i64.wrap (s.bf.getD i default+o),s.ending i c v k p,s.numOf (s.owner c).1 p,(s.owner c).1,(s.owner c).2,v,id,h⟩
def ae.um(s:ae)(i c v k:Nat)(o:Int)(id:cP):Nat→List aS→List aq→List aq
 | _,[],out=>out
 | h,y::r,out=>s.um i c v k o id (h+1) r (if bh y.aB (s.before i c v k)=true then out else yZ (s.qm i c v k o id h y.aB) out)
def ae.FI(s:ae)(i c v:Nat):Nat→List aD→List Int→List aq→List aq
 | k,e::es,o::os,out=>s.FI i c v (k+1) es os (s.um i c v k o e.ID 0 e.aE out)
 | _,_,_,out=>out
def ae.Hl(s:ae)(i c:Nat):Nat→List ax→List aq→List aq
 | _,[],out=>out
 | v,x::r,out=>s.Hl i c (v+1) r (s.FI i c v 0 x.ak (s.iy i c v) out)
def ae.Li(s:ae)(i:Nat):Nat→List aI→List aq→List aq
 | _,[],out=>out
 | c,x::r,out=>s.Li i (c+1) r (s.Hl i c 0 x.ai out)
def ae.Po(s:ae):Nat→List aj→List aq→List aq
 | _,[],out=>out
 | i,m::r,out=>s.Po (i+1) r (s.Li i 0 m.Cells out)
def ae.qn(s:ae):List aq:=s.Po 0 s.aa []
theorem zc(n:aq)(l:List aq):(yZ n l).length=l.length+1:=by
 have:=xp n l l.length;unfold yZ;simp;omega
theorem Fg{s:ae}{i c v k:Nat}{es:List aD}{os:List Int}{out:List aq}(h1:k<es.length)(h2:k<os.length):
  s.FI i c v k (es.drop k) (os.drop k) out=s.FI i c v (k+1) (es.drop (k+1)) (os.drop (k+1)) (s.um i c v k (os.getD k default) (es.getD k default).ID 0 (es.getD k default).aE out):=by
 rw[aF h1,aF h2];all_goals rfl
theorem IK{s:ae}{i c v k:Nat}{es:List aD}{os:List Int}{out:List aq}(h:es.length≤k∨os.length≤k):s.FI i c v k (es.drop k) (os.drop k) out=out:=by
 rcases h with h | h
 ·rw[List.drop_eq_nil_of_le h];rfl
 ·rw[List.drop_eq_nil_of_le h];cases es.drop k<;>rfl
structure Yg(s:ae)(N:Nat):Prop where
 wf:s.wf
 parts:s.ay.length≤1000
 ep:s.aa.length≤10
 bf:s.bf.length=s.aa.length+1
 ZK:N≤10
 cells:∀i,i<s.aa.length→(s.aa.getD i default).Cells.length=N
 dI:∀i c,i<s.aa.length→c<N→s.kx i c≤10
 events:∀i c v,i<s.aa.length→c<N→v<s.kx i c→(s.vo i c v).ak.length≤100
 eF:∀i c v k,i<s.aa.length→c<N→v<s.kx i c→k<(s.vo i c v).ak.length→(s.ev i c v k).aE.length≤100
 owner:∀c,c<N→0≤(s.owner c).1∧(s.owner c).1<s.ay.length
abbrev Rs(s:ae)(i c v:Nat)(x:ax)(os:List Int)(k:Nat)(out:List aq)(h:Nat):St:=
 St.mk' [(1,.ptr (.own 1) 0),(3,.own 9 (out.map aq.enc)),(4,.p (.sl 1 (s.bf.map cB))),(5,nI i),(6,nI (s.aa.getD i default).len),(8,nI c),(9,nI (s.owner c).1),(10,nI (s.owner c).2),(11,nI v),(12,.ptr (.own 12) 0),(13,.p (.sl 1 (os.map cB))),(15,nI k),(16,nI h)]
  [(.own 1,.pure 27 s.enc),(.own 12,.pure 91 x.enc)]
set_option maxHeartbeats 4000000 in
theorem Yh{Q:Ex→St→Prop}(s:ae)(N:Nat)(hI:Yg s N)(i c v k h:Nat)(x:ax)(os:List Int)(out:List aq)(hA:At s i c v k)(hx:x=s.vo i c v)(D8:k<os.length)(iz:os.length≤128)
  (JW:out.length≤100000000)
  (hX:(x.ak.getD k default).aE.length≤h→ ∀v1 v2 v3 v4 v5 v6 v7 v8 v9:AV,Q (.exit 8) ((((((((((Rs s i c v x os k out h).put 102 v1).put 103 v2).put 104 v3).put 105 v4).put 106 v5).put 107 v6).put 108 v7).put 109 v8).put 110 v9))
  (hN:∀S o2,h<(x.ak.getD k default).aE.length→o2.length≤out.length+1→
   s.um i c v k (os.getD k default) (x.ak.getD k default).ID h ((x.ak.getD k default).aE.drop h) out=s.um i c v k (os.getD k default) (x.ak.getD k default).ID (h+1) ((x.ak.getD k default).aE.drop (h+1)) o2→
   S.bM [1,3,4,5,6,8,9,10,11,12,13,15,16] [.own 1,.own 12]=Rs s i c v x os k o2 (h+1)→Q .normal S):
  oK te JJ (cX Tryz.f21 [1,1,1,0,1,0,0,1,0,0,1,1,0,0,1,0,0,1,1,0,0,1,0,0,1,1,1,0,0,1,0,0,1,0,0]) (Rs s i c v x os k out h) Q:=by
 have fw:maxLen≤9223372036854775807:=by decide
 have j5:(100000:Nat)≤maxLen:=by decide
 obtain⟨a1,a2,a3,a4⟩:=id hA;obtain⟨n1,n2,n3,n4,n5,n6,n7,n8,n9,Xc⟩:=id hI;have Rt:c<N:=by rw[←n6 i a1];exact a2
 have wV:x.wf:=by
  rw[hx];exact((n1.aa.2 _ (av a1)).Cells.2 _ (av a2)).ai.2 _ (av a3)
 have pj:k<x.ak.length:=by rw[hx];exact a4
 have ow:=ao aD.enc x.ak k pj;have hew:=wV.ak.2 _ (av pj);have hhl:=n9 i c v k a1 Rt a3 a4;have N7:s.ev i c v k=x.ak.getD k default:=by rw[hx];rfl
 rw[N7]at hhl;obtain⟨e,he⟩:∃e,e=x.ak.getD k default:=⟨_,rfl⟩
 rw[←he]at ow hX hN hew hhl;refine⟨_,ow,?_⟩;refine⟨_,al _ _,?_⟩;refine ab (fun agl=>?_) (fun agl=>?_)
 ·have agl:=of_decide_eq_true agl;have aN:h<e.aE.length:=by omega
  have KF:=ao aS.enc e.aE h aN;have hd:=aF aN;obtain⟨y,hy⟩:∃y,y=e.aE.getD h default:=⟨_,rfl⟩
  rw[←hy]at KF hd;have h40:=UP s i c v k y.aB n1 hA (fun h0=>by rw[n6 (i-1) (by omega)];exact Rt);have h43:=UQ s i c v k y.aB n1 (by omega) n4 (by omega) (by have:=n8 i c v a1 Rt a3;omega) (fun j hj=>by rw[n6 j hj];exact Rt) (fun j hj hv=>by have:=n8 j c v hj Rt hv;omega);have aw:s.um i c v k (os.getD k default) e.ID h (e.aE.drop h) out=s.um i c v k (os.getD k default) e.ID (h+1) (e.aE.drop (h+1)) (if bh y.aB (s.before i c v k)=true then out else yZ (s.qm i c v k (os.getD k default) e.ID h y.aB) out):=by
   rw[hd];rfl
  obtain⟨o1,o2⟩:=Xc c Rt;refine⟨_,ow,?_⟩;refine⟨_,KF,?_⟩;refine⟨rfl,?_⟩;refine⟨_,h40,?_⟩;refine ab (fun ht=>?_) (fun ht=>?_)
  ·have ht:bh y.aB (s.before i c v k)=true:=ht;rw[if_pos ht]at aw;refine⟨_,wrap_i64 (by omega) (by omega),?_⟩;exact hN _ _ aN (by omega) aw rfl
  ·have ht:bh y.aB (s.before i c v k)=false:=ht;rw[if_neg (by rw[ht];simp)]at aw;refine⟨_,yH y.aB,?_⟩;refine ab (fun hw=>?_) (fun hw=>?_)
   ·have hw:s.Written=true:=hw;have hnu:s.numOf (s.owner c).1 y.aB=IntKind.i64.wrap (nq y.aB-(s.ay.getD (s.owner c).1.toNat default).aT.ct):=by unfold ae.numOf;rw[if_pos hw]
    unfold ae.qm at aw;rw[hnu]at aw;refine⟨_,cZ cf.enc s.ay (s.owner c).1 (by omega) (by omega),?_⟩;refine⟨_,rfl,?_⟩;refine⟨rfl,?_⟩;refine⟨_,ao cB s.bf i (by omega),?_⟩;refine⟨_,ao cB os k D8,?_⟩;refine⟨_,rfl,?_⟩;refine⟨_,h43,?_⟩;refine⟨_,ow,?_⟩;refine⟨_,NC out (⟨IntKind.i64.wrap (s.bf.getD i default+os.getD k default),s.ending i c v k y.aB,IntKind.i64.wrap (nq y.aB-(s.ay.getD (s.owner c).1.toNat default).aT.ct),(s.owner c).1,(s.owner c).2,v,e.ID,h⟩) (by omega),?_⟩;refine⟨_,wrap_i64 (by omega) (by omega),?_⟩;exact hN _ _ aN (by rw[zc];omega) aw rfl
   ·have hw:s.Written=false:=hw;have hnu:s.numOf (s.owner c).1 y.aB=nq y.aB:=by unfold ae.numOf;rw[if_neg (by rw[hw];simp)]
    unfold ae.qm at aw;rw[hnu]at aw;refine⟨rfl,?_⟩;refine⟨_,ao cB s.bf i (by omega),?_⟩;refine⟨_,ao cB os k D8,?_⟩;refine⟨_,rfl,?_⟩;refine⟨_,h43,?_⟩;refine⟨_,ow,?_⟩;refine⟨_,NC out (⟨IntKind.i64.wrap (s.bf.getD i default+os.getD k default),s.ending i c v k y.aB,nq y.aB,(s.owner c).1,(s.owner c).2,v,e.ID,h⟩) (by omega),?_⟩;refine⟨_,wrap_i64 (by omega) (by omega),?_⟩;exact hN _ _ aN (by rw[zc];omega) aw rfl
 ·have agl:=of_decide_eq_false agl;exact hX (by omega) _ _ _ _ _ _ _ _ _
theorem Fh(s:ae)(i c v k:Nat)(o:Int)(id:cP):∀(l:List aS) (h:Nat) (out:List aq),(s.um i c v k o id h l out).length≤out.length+l.length
 | [],h,out=>Nat.le_refl _
 | y::r,h,out=>by
  refine Nat.le_trans (Fh s i c v k o id r (h+1) _) ?_;split
  ·rw[List.length_cons];omega
  ·rw[zc,List.length_cons];omega
abbrev IL(s:ae)(i c v:Nat)(x:ax)(os:List Int)(k:Nat)(out:List aq):St:=
 St.mk' [(1,.ptr (.own 1) 0),(3,.own 9 (out.map aq.enc)),(4,.p (.sl 1 (s.bf.map cB))),(5,nI i),(6,nI (s.aa.getD i default).len),(8,nI c),(9,nI (s.owner c).1),(10,nI (s.owner c).2),(11,nI v),(12,.ptr (.own 12) 0),(13,.p (.sl 1 (os.map cB))),(15,nI k)]
  [(.own 1,.pure 27 s.enc),(.own 12,.pure 91 x.enc)]
set_option maxHeartbeats 4000000 in
theorem Yi{Q:Ex→St→Prop}(s:ae)(N:Nat)(hI:Yg s N)(i c v k:Nat)(x:ax)(os:List Int)(out:List aq)(h1:i<s.aa.length)(h2:c<N)(h3:v<s.kx i c)(hx:x=s.vo i c v)(hk:k≤x.ak.length)(iz:os.length≤128)
  (JW:out.length≤90000000)
  (hX:x.ak.length≤k∨os.length≤k→ ∀v1 v2 v3 v4 v5 v6 v7 v8 v9 v10 v11:AV,Q (.exit 6) (((((((((((((((((IL s i c v x os k out).put 89 v1).put 90 v2).put 91 v3).put 92 v4).put 93 v5).put 94 v6).cA 94).put 95 v7).cA 94).put 96 v8).cA 94).put 97 v9).cA 94).put 98 v10).put 99 v11).unlock))
  (hN:∀S o2,k<x.ak.length→o2.length≤out.length+100→s.FI i c v k (x.ak.drop k) (os.drop k) out=s.FI i c v (k+1) (x.ak.drop (k+1)) (os.drop (k+1)) o2→
   S.bM [1,3,4,5,6,8,9,10,11,12,13,15] [.own 1,.own 12]=IL s i c v x os (k+1) o2→Q .normal S):
  oK te JJ (cX Tryz.f21 [1,1,1,0,1,0,0,1,0,0,1,1,0,0,1,0,0,1,1,0,0,1,0,0,1,1,1,0,0]) (IL s i c v x os k out) Q:=by
 have fw:maxLen≤9223372036854775807:=by decide
 have j5:(100000:Nat)≤maxLen:=by decide
 obtain⟨n1,n2,n3,n4,n5,n6,n7,n8,n9,Xc⟩:=id hI;have dq:=n8 i c v h1 h2 h3;rw[←hx]at dq;refine⟨_,al _ _,?_⟩;refine⟨_,fun _=>al _ _,?_⟩;refine ab (fun h=>?_) (fun h=>?_)
 ·have h:(bif decide ((k:Int)<x.ak.length)then decide ((k:Int)<os.length)else false)=true:=h;rw[aR,Bool.and_eq_true,decide_eq_true_eq,decide_eq_true_eq]at h;have k1:k<x.ak.length:=by omega
  have k2:k<os.length:=by omega
  have aw:=Fg (s:=s) (i:=i) (c:=c) (v:=v) (out:=out) k1 k2;have hh:=n9 i c v k h1 h2 h3 (by rw[←hx];exact k1);have N7:s.ev i c v k=x.ak.getD k default:=by rw[hx];rfl
  rw[N7]at hh;have hlen:=Fh s i c v k (os.getD k default) (x.ak.getD k default).ID (x.ak.getD k default).aE 0 out;obtain⟨R,hR⟩:∃R,s.um i c v k (os.getD k default) (x.ak.getD k default).ID 0 (x.ak.getD k default).aE out=R:=⟨_,rfl⟩
  rw[hR]at aw hlen;have hA:At s i c v k:=⟨h1,by rw[n6 i h1];exact h2,h3,by rw[←hx];exact k1⟩;refine⟨[1,3,4,5,6,8,9,10,11,12,13,15,16],[.own 1,.own 12],fun q S=>∃(h:Nat) (o:List aq),h≤(x.ak.getD k default).aE.length∧q=(x.ak.getD k default).aE.length-h∧o.length≤out.length+h∧
   s.um i c v k (os.getD k default) (x.ak.getD k default).ID h ((x.ak.getD k default).aE.drop h) o=R∧S=Rs s i c v x os k o h,⟨_,0,out,by omega,rfl,by omega,hR,rfl⟩,?_⟩
  rintro q S ⟨h,o,hh2,rfl,aft,Yj,rfl⟩;refine Yh s N hI i c v k h x os o hA hx k2 iz (by omega) (fun he v1 v2 v3 v4 v5 v6 v7 v8 v9=>?_) (fun S o2 aN h6 h7 h8=>?_)
  ·rw[List.drop_eq_nil_of_le he]at Yj;have Yj:o=R:=Yj;rw[←Yj]at aw hlen;refine⟨_,wrap_i64 (by omega) (by omega),?_⟩;exact hN _ _ k1 (by omega) aw rfl
  ·exact⟨_,by omega,h+1,o2,by omega,rfl,by omega,by rw[←h7];exact Yj,h8⟩
 ·have h:(bif decide ((k:Int)<x.ak.length)then decide ((k:Int)<os.length)else false)=false:=h;rw[aR,Bool.and_eq_false_iff,decide_eq_false_iff_not,decide_eq_false_iff_not]at h;exact hX (by omega) _ _ _ _ _ _ _ _ _ _ _
abbrev IM(s:ae)(i c v:Nat)(out:List aq):St:=
 St.mk' [(1,.ptr (.own 1) 0),(3,.own 9 (out.map aq.enc)),(4,.p (.sl 1 (s.bf.map cB))),(5,nI i),(6,nI (s.aa.getD i default).len),(8,nI c),(9,nI (s.owner c).1),(10,nI (s.owner c).2),(11,nI v)] [(.own 1,.pure 27 s.enc)]
set_option maxHeartbeats 4000000 in
theorem Yk{Q:Ex→St→Prop}(s:ae)(N:Nat)(hI:Yg s N)(i c v:Nat)(d:aI)(out:List aq)(h1:i<s.aa.length)(h2:c<N)(hd:d=(s.aa.getD i default).Cells.getD c default)(hv:v≤d.ai.length)
  (JW:out.length≤80000000)
  (hX:v=d.ai.length→ ∀v1 v2 v3 v4 v5 v6 v7 v8 v9 v10 v11 Ia Lf:AV,Q (.exit 4) (((((((((((((((IM s i c v out).put 55 v1).put 56 v2).put 57 v3).put 58 v4).put 59 v5).put 60 v6).put 61 v7).put 62 v8).put 63 v9).put 64 v10).put 65 v11).put 66 Ia).put 67 Lf)))
  (hN:∀S o2,v<d.ai.length→o2.length≤out.length+10000→s.Hl i c v (d.ai.drop v) out=s.Hl i c (v+1) (d.ai.drop (v+1)) o2→
   S.bM [1,3,4,5,6,8,9,10,11] [.own 1]=IM s i c (v+1) o2→Q .normal S):
  oK te JJ (cX Tryz.f21 [1,1,1,0,1,0,0,1,0,0,1,1,0,0,1,0,0,1,1,0,0]) (IM s i c v out) Q:=by
 have fw:maxLen≤9223372036854775807:=by decide
 have j5:(100000:Nat)≤maxLen:=by decide
 obtain⟨n1,n2,n3,n4,n5,n6,n7,n8,n9,Xc⟩:=id hI;have bW:=ao aj.enc s.aa i h1;have Za:c<(s.aa.getD i default).Cells.length:=by rw[n6 i h1];exact h2
 have fF:=ao aI.enc _ c Za;rw[←hd]at fF;refine⟨_,bW,?_⟩;refine⟨_,fF,?_⟩;refine⟨_,al _ _,?_⟩;have GR:=n7 i c h1 h2;unfold ae.kx at GR;rw[←hd]at GR;refine ab (fun h=>?_) (fun h=>?_)
 ·have h:=of_decide_eq_true h;have aN:v<d.ai.length:=by omega
  have h3:v<s.kx i c:=by unfold ae.kx;rw[←hd];exact aN
  have Mk:=aF aN;have gL:=ao ax.enc d.ai v aN;have Lh:(s.vo i c v).wf:=((n1.aa.2 _ (av h1)).Cells.2 _ (av Za)).ai.2 _ (av h3);have rq:s.vo i c v=d.ai.getD v default:=by unfold ae.vo;rw[←hd]
  have D8:s.iy i c v=(cm (s.vo i c v) (s.aa.getD i default).len).1:=rfl;have Wb:=n8 i c v h1 h2 h3;rw[rq]at Lh D8 Wb;obtain⟨x,hx⟩:∃x,x=d.ai.getD v default:=⟨_,rfl⟩
  rw[←hx]at gL Mk Lh rq D8 Wb;have uM:s.Hl i c v (d.ai.drop v) out=s.Hl i c (v+1) (d.ai.drop (v+1)) (s.FI i c v 0 x.ak (s.iy i c v) out):=by rw[Mk];rfl
  have Rp:=yT x (s.aa.getD i default).len Lh;have iz:=kL x (s.aa.getD i default).len;rw[←D8]at iz;obtain⟨os,ho⟩:∃os,os=s.iy i c v:=⟨_,rfl⟩
  rw[←ho]at iz uM D8;obtain⟨R,hR⟩:∃R,s.FI i c v 0 x.ak os out=R:=⟨_,rfl⟩
  rw[hR]at uM;refine⟨_,bW,?_⟩;refine⟨_,fF,?_⟩;refine⟨_,gL,?_⟩;refine⟨rfl,?_⟩;refine⟨_,Rp,?_⟩;refine⟨[1,3,4,5,6,8,9,10,11,12,13,15],[.own 1,.own 12],fun q S=>∃(k:Nat) (o:List aq),k≤x.ak.length∧q=x.ak.length-k∧o.length≤out.length+100*k∧s.FI i c v k (x.ak.drop k) (os.drop k) o=R∧S=IL s i c v x os k o,
   ⟨_,0,out,by omega,rfl,by omega,hR,by rw[D8];rfl⟩,?_⟩
  rintro q S ⟨k,o,hk,rfl,cq,aw,rfl⟩;refine Yi s N hI i c v k x os o h1 h2 h3 rq.symm hk iz (by omega) (fun he v1 v2 v3 v4 v5 v6 v7 v8 v9 v10 v11=>?_) (fun S o2 fl h6 h7 h8=>?_)
  ·rw[IK he]at aw;subst aw;refine⟨_,wrap_i64 (by omega) (by omega),?_⟩;exact hN _ _ aN (by omega) uM rfl
  ·exact⟨_,by omega,k+1,o2,by omega,rfl,by omega,by rw[←h7];exact aw,h8⟩
 ·have h:=of_decide_eq_false h;exact hX (by omega) _ _ _ _ _ _ _ _ _ _ _ _ _
open Go.Proofs
set_option maxHeartbeats 4000000 in
theorem UR(s:ae)(N:Nat)(hI:Yg s N):JJ 21 [.agg s.enc] [] (.p (.sl 9 (s.qn.map aq.enc))) []:=by
 have fw:maxLen≤9223372036854775807:=by decide
 have j5:(100000:Nat)≤maxLen:=by decide
 obtain⟨n1,n2,n3,n4,n5,n6,n7,n8,n9,Xc⟩:=id hI;refine JJ.intro Tryz.func21 rfl rfl rfl rfl ?_;obtain⟨R,hR⟩:∃R,s.qn=R:=⟨_,rfl⟩
 rw[hR];refine⟨_,Hi s n1 (by omega),?_⟩;refine⟨[1,3,4,5],[.own 1],fun q S=>∃(i:Nat) (o:List aq),i≤s.aa.length∧q=s.aa.length-i∧o.length≤1000000*i∧s.Po i (s.aa.drop i) o=R∧
  S=St.mk' [(1,.ptr (.own 1) 0),(3,.own 9 (o.map aq.enc)),(4,.p (.sl 1 (s.bf.map cB))),(5,nI i)] [(.own 1,.pure 27 s.enc)],
  ⟨_,0,[],by omega,rfl,by simp,hR,rfl⟩,?_⟩
 rintro q S ⟨i,o,hi,rfl,iz,aw,rfl⟩;refine⟨_,al _ _,?_⟩;refine ab (fun h=>?_) (fun h=>?_)
 ·have h:=of_decide_eq_true h;have aN:i<s.aa.length:=by omega
  have bW:=ao aj.enc s.aa i aN;have cV:=av aN;rw[aF aN]at aw;have sO:=n1.aa.2 _ cV;have Yd:=kU _ sO.bC.Unit;have hN:=n6 i aN;obtain⟨Z,hZ⟩:∃Z,s.Li i 0 (s.aa.getD i default).Cells o=Z:=⟨_,rfl⟩
  have aw:s.Po (i+1) (s.aa.drop (i+1)) (s.Li i 0 (s.aa.getD i default).Cells o)=R:=aw;rw[hZ]at aw;refine⟨_,bW,?_⟩;refine⟨_,Yd,?_⟩;refine⟨[1,3,4,5,6,8],[.own 1],fun q S=>∃(c:Nat) (u:List aq),c≤N∧q=N-c∧u.length≤1000000*i+100000*c∧s.Li i c ((s.aa.getD i default).Cells.drop c) u=Z∧
   S=St.mk' [(1,.ptr (.own 1) 0),(3,.own 9 (u.map aq.enc)),(4,.p (.sl 1 (s.bf.map cB))),(5,nI i),(6,nI (s.aa.getD i default).len),(8,nI c)] [(.own 1,.pure 27 s.enc)],
   ⟨_,0,o,by omega,rfl,by omega,hZ,rfl⟩,?_⟩
  rintro q S ⟨c,u,hc,rfl,hul,j6,rfl⟩;refine⟨_,bW,?_⟩;refine⟨_,al _ _,?_⟩;refine ab (fun h=>?_) (fun h=>?_)
  ·have h:=of_decide_eq_true h;have N4:c<(s.aa.getD i default).Cells.length:=by omega
   have Rt:c<N:=by omega
   rw[aF N4]at j6;have GR:=n7 i c aN Rt;unfold ae.kx at GR;obtain⟨d,hd⟩:∃d,d=(s.aa.getD i default).Cells.getD c default:=⟨_,rfl⟩
   rw[←hd]at j6 GR;obtain⟨Y,hY⟩:∃Y,s.Hl i c 0 d.ai u=Y:=⟨_,rfl⟩
   have j6:s.Li i (c+1) ((s.aa.getD i default).Cells.drop (c+1)) (s.Hl i c 0 d.ai u)=Z:=j6;rw[hY]at j6;refine⟨_,NS s c (by omega),?_⟩;refine⟨[1,3,4,5,6,8,9,10,11],[.own 1],fun q S=>∃(v:Nat) (w:List aq),v≤d.ai.length∧q=d.ai.length-v∧w.length≤1000000*i+100000*c+10000*v∧s.Hl i c v (d.ai.drop v) w=Y∧S=IM s i c v w,
    ⟨_,0,u,by omega,rfl,by omega,hY,rfl⟩,?_⟩
   rintro q S ⟨v,w,hv,rfl,hwl,jZ,rfl⟩;refine Yk s N hI i c v d w aN Rt hd hv (by omega) (fun he v1 v2 v3 v4 v5 v6 v7 v8 v9 v10 v11 Ia Lf=>?_) (fun S o2 fl h6 h7 h8=>?_)
   ·rw[List.drop_eq_nil_of_le (by omega)]at jZ;have jZ:w=Y:=jZ;rw[←jZ]at j6;refine⟨_,wrap_i64 (by omega) (by omega),?_⟩;exact⟨N-(c+1),by omega,c+1,w,by omega,rfl,by omega,j6,rfl⟩
   ·have iE:o2.length≤1000000*i+100000*c+10000*(v+1):=by
     refine Nat.le_trans h6 ?_;rw[Nat.mul_succ,←Nat.add_assoc];exact Nat.add_le_add_right hwl 10000
    refine⟨d.ai.length-(v+1),?_,v+1,o2,?_,rfl,iE,?_,h8⟩
    ·clear h6 iE;omega
    ·clear h6 iE;omega
    ·rw[←h7];exact jZ
  ·have h:=of_decide_eq_false h;rw[List.drop_eq_nil_of_le (by omega)]at j6;have j6:u=Z:=j6;subst j6;refine⟨_,wrap_i64 (by omega) (by omega),?_⟩;exact⟨s.aa.length-(i+1),by omega,i+1,_,by omega,rfl,by omega,aw,rfl⟩
 ·have h:=of_decide_eq_false h;rw[List.drop_eq_nil_of_le (by omega)]at aw;have aw:o=R:=aw;subst aw;exact⟨rfl,rfl⟩
open Go.Proofs
abbrev bd(s:ae)(aO:Int)(l:List ah):er:= .mix 140 (s.enc.map AV.p++ [nI aO,.own 3 (l.map ah.enc)])
def gE(c:Bool)(aO:Int)(id:cP)(l:List ah):List ah:=if c=true then l++ [⟨aO,id⟩]else l
theorem cS(c:Bool)(aO:Int)(id:cP)(l:List ah):(gE c aO id l).length≤l.length+1:=by
 unfold gE;split
 ·simp
 ·omega
theorem ix(s:ae)(aO:Int)(l:List ah)(c:Bool)(id:cP)(hl:l.length≤1000000000):
  JJ 76 [.ptr (.ext 0) 0,nB c,.agg id.enc] [bd s aO l] (.dE []) [bd s aO (gE c aO id l)]:=by
 refine JJ.intro Tryz.func76 rfl rfl rfl rfl ?_;refine ab (fun h=>?_) (fun h=>?_)
 ·have h:c=true:=h;subst h;have e:gE true aO id l=l++ [⟨aO,id⟩]:=if_pos rfl;rw[e];refine⟨[.pt],rfl,?_⟩;refine⟨rfl,?_⟩;refine⟨rfl,?_⟩;refine⟨rfl,?_⟩;refine⟨rfl,?_⟩;refine⟨rfl,?_⟩;refine⟨rfl,?_⟩;refine⟨rfl,?_⟩;refine⟨rfl,?_⟩;refine⟨rfl,?_⟩;refine⟨rfl,?_⟩;refine⟨rfl,?_⟩;refine⟨rfl,?_⟩;refine⟨rfl,?_⟩;refine⟨?_,(l++ [(⟨aO,id⟩:ah)]).map ah.enc,by rw[List.map_append];rfl,?_⟩
  ·show((l.map ah.enc).length+1)*24≤140737488355328;rw[List.length_map];omega
  refine⟨rfl,?_⟩;refine⟨rfl,?_⟩;refine⟨rfl,?_⟩;exact⟨rfl,rfl⟩
 ·have h:c=false:=h;subst h;exact⟨rfl,rfl⟩
def Yl(b:UInt8):Bool:=bif decide ((b.toNat:Int)<32)then true else((b.toNat:Int)==127)
theorem Ru(b:UInt8):JJ 129 [.p (.int .u8 b.toNat)] [] (nB (Yl b)) []:=by
 refine JJ.intro Tryz.func129 rfl rfl rfl rfl ?_;exact⟨rfl,rfl⟩
def zd(t:List UInt8):Bool:=bif decide ((t.length:Int)≤256)then !(t.any Yl)else false
theorem Hn(t:List UInt8)(hl:t.length≤maxLen):JJ 77 [.p (.str t)] [] (nB (zd t)) []:=by
 refine XX.intro Tryz.func77 rfl rfl rfl rfl ?_;refine⟨_,fun _=>Nn t hl (fun b _=>Ru b),?_⟩;exact⟨rfl,rfl⟩
end Go.Hm
