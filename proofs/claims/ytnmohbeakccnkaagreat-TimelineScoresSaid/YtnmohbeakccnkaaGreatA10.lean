/- Part 10 of the proof: an abstract machine for the program, its soundness, contracts of functions, and the plain law; no conditions. -/
import Derived.Test.YtnmohbeakccnkaaGreatA9
set_option linter.all false
set_option maxRecDepth 8000
namespace Go.Hm
open Go.Proofs
def abM(a b:cr):Bool:=if a.Kind=1 then EP a b else if a.Kind=2 then !vu a b else if a.Kind=3 then !vu a b else if a.Kind=4 then !nk a b else if a.Kind=5 then !nk a b else if a.Kind=6 then !vu a b else !nk a b
def Hu(a b:cr):Bool:=if(!qc a b)=true then false else abM a b
theorem KN{n:Int}(h:family n>0):1≤n∧n≤7:=by
 unfold family at h
 repeat' (split at h;· omega)
 omega
set_option maxHeartbeats 2000000 in
theorem RN(a b:cr):JJ 107 [.agg a.enc,.agg b.enc] [] (nB (Hu a b)) []:=by
 have hg:qc a b=true→1≤a.Kind∧a.Kind≤7:=fun h=>by
  unfold qc at h;simp only[aR,Bool.and_eq_true,decide_eq_true_eq]at h;exact KN h.1.1.1
 obtain⟨G,hG⟩:∃G,qc a b=G:=⟨_,rfl⟩
 have Yw:=QD a b;unfold Hu;rw[hG]at Yw hg ⊢;refine XX.intro Tryz.func107 rfl rfl rfl rfl ?_;refine Or.inl ?_;refine⟨_,Yw,?_⟩;refine ab (fun h=>?_) (fun h=>?_)
 ·rw[if_pos (show(!G)=true from h)];exact⟨rfl,rfl⟩
 ·have h:(!G)=false:=h;rw[if_neg (by rw[h];simp)];have hk:=hg (by simpa using h);obtain⟨K,F,T⟩:=a;have hk:1≤K∧K≤7:=hk;obtain rfl | rfl | rfl | rfl | rfl | rfl | rfl:K=1∨K=2∨K=3∨K=4∨K=5∨K=6∨K=7:=by omega
  ·refine⟨rfl,?_⟩;refine⟨0,(wrap_i64 (by decide) (by decide):IntKind.i64.wrap ((1:Int)-1)=_),?_⟩;refine⟨⟨by decide,by decide⟩,?_⟩;refine⟨_,QE ⟨1,F,T⟩ b,?_⟩;exact⟨rfl,rfl⟩
  ·refine⟨rfl,?_⟩;refine⟨1,(wrap_i64 (by decide) (by decide):IntKind.i64.wrap ((2:Int)-1)=_),?_⟩;refine⟨⟨by decide,by decide⟩,?_⟩;refine⟨_,CK ⟨2,F,T⟩ b,?_⟩;exact⟨rfl,rfl⟩
  ·refine⟨rfl,?_⟩;refine⟨2,(wrap_i64 (by decide) (by decide):IntKind.i64.wrap ((3:Int)-1)=_),?_⟩;refine⟨⟨by decide,by decide⟩,?_⟩;refine⟨_,CK ⟨3,F,T⟩ b,?_⟩;exact⟨rfl,rfl⟩
  ·refine⟨rfl,?_⟩;refine⟨3,(wrap_i64 (by decide) (by decide):IntKind.i64.wrap ((4:Int)-1)=_),?_⟩;refine⟨⟨by decide,by decide⟩,?_⟩;refine⟨_,CL ⟨4,F,T⟩ b,?_⟩;exact⟨rfl,rfl⟩
  ·refine⟨rfl,?_⟩;refine⟨4,(wrap_i64 (by decide) (by decide):IntKind.i64.wrap ((5:Int)-1)=_),?_⟩;refine⟨⟨by decide,by decide⟩,?_⟩;refine⟨_,CL ⟨5,F,T⟩ b,?_⟩;exact⟨rfl,rfl⟩
  ·refine⟨rfl,?_⟩;refine⟨5,(wrap_i64 (by decide) (by decide):IntKind.i64.wrap ((6:Int)-1)=_),?_⟩;refine⟨⟨by decide,by decide⟩,?_⟩;refine⟨_,CK ⟨6,F,T⟩ b,?_⟩;exact⟨rfl,rfl⟩
  ·refine⟨rfl,?_⟩;refine⟨6,(wrap_i64 (by decide) (by decide):IntKind.i64.wrap ((7:Int)-1)=_),?_⟩;refine⟨⟨by decide,by decide⟩,?_⟩;refine⟨_,CL ⟨7,F,T⟩ b,?_⟩;exact⟨rfl,rfl⟩
def Vo(L:List (cr×Bool))(r:Int):Nat→List br→List ah→List ah
 | _,[],l=>l
 | i,x::rest,l=>Vo L r (i+1) rest (gE (L.getD i default).2 r x.ID l)
abbrev Ia(s:ae)(r:Int)(l:List ah):List ah:=Vo (z9 s s.au) r 0 s.au l
theorem IZ(s:ae)(l:List br):(z9 s l).length=l.length:=by unfold z9;simp
theorem Vp{L:List (cr×Bool)}{i:Nat}(h:i<L.length):0≤(i:Int)∧(L.map fun y=>zg y.2)[(i:Int).toNat]? =some (zg (L.getD i default).2):=by
 refine⟨by omega,?_⟩;rw[Int.toNat_natCast,List.getElem?_map,List.getElem?_eq_getElem h,List.getD_eq_getElem?_getD,List.getElem?_eq_getElem h];all_goals rfl
theorem Yx{L:List (cr×Bool)}{i:Nat}(h:i<L.length):0≤(i:Int)∧(L.map fun y=>y.1.enc)[(i:Int).toNat]? =some (L.getD i default).1.enc:=by
 refine⟨by omega,?_⟩;rw[Int.toNat_natCast,List.getElem?_map,List.getElem?_eq_getElem h,List.getD_eq_getElem?_getD,List.getElem?_eq_getElem h];all_goals rfl
set_option maxHeartbeats 2000000 in
theorem Vq(s:ae)(r:Int)(l:List ah)(hw:s.wf)(iH:s.ay.length≤1000)(kl:∀p∈s.ay,p.aL.length≤1000)(kC:s.au.length≤100000)(hl:l.length≤100000000):
  JJ 56 [.ptr (.ext 0) 0] [bd s r l] (.dE []) [bd s r (Ia s r l)]:=by
 have fw:maxLen≤9223372036854775807:=by decide
 unfold Ia;have OE:=IY s r l hw iH kl kC;have hLl:=IZ s s.au;obtain⟨L,hL⟩:∃L,z9 s s.au=L:=⟨_,rfl⟩
 rw[hL]at OE hLl ⊢;refine JJ.intro Tryz.func56 rfl rfl rfl rfl ?_;refine⟨_,_,OE,rfl,?_⟩;refine⟨_,al _ _,?_⟩;obtain⟨R,hR⟩:∃R,Vo L r 0 s.au l=R:=⟨_,rfl⟩
 rw[hR];refine⟨[0,3,15,16,17],[.ext 0],fun q S=>∃(i:Nat) (o:List ah),i≤s.au.length∧q=s.au.length-i∧o.length≤l.length+i∧Vo L r i (s.au.drop i) o=R∧
  S=St.mk' [(0,.ptr (.ext 0) 0),(3,.p (.sl 1 (L.map fun y=>zg y.2))),(15,.p (.sl 7 (s.au.map br.enc))),(16,nI s.au.length),(17,nI i)] [(.ext 0,bd s r o)],⟨_,0,l,by omega,rfl,by omega,hR,rfl⟩,?_⟩
 rintro q S ⟨i,o,hi,rfl,iz,aw,rfl⟩;refine ab (fun h=>?_) (fun h=>?_)
 ·have h:=of_decide_eq_true h;have aN:i<s.au.length:=by omega
  have bW:=ao br.enc s.au i aN;rw[aF aN]at aw;obtain⟨x,hx⟩:∃x,x=s.au.getD i default:=⟨_,rfl⟩
  rw[←hx]at bW aw;have aw:Vo L r (i+1) (s.au.drop (i+1)) (gE (L.getD i default).2 r x.ID o)=R:=aw;have Ei:=cS (L.getD i default).2 r x.ID o;refine⟨_,bW,?_⟩;refine⟨rfl,?_⟩;refine⟨rfl,?_⟩;refine⟨_,Vp (by omega),?_⟩;refine⟨_,_,ix s r o _ x.ID (by omega),rfl,?_⟩;refine⟨_,wrap_i64 (by omega) (by omega),?_⟩;exact⟨_,by omega,i+1,_,by omega,rfl,by omega,aw,rfl⟩
 ·have h:=of_decide_eq_false h;rw[List.drop_eq_nil_of_le (by omega)]at aw;have aw:o=R:=aw;subst aw;exact⟨rfl,rfl⟩
def Fm(L:List (cr×Bool))(i:Nat)(x:Bool):Nat→Nat→Bool
 | 0,_=>x
 | n+1,k=>if(bif !(L.getD i default).2 then !x else false)=true then Fm L i (bif !(L.getD k default).2 then Hu (L.getD k default).1 (L.getD i default).1 else false) n (k+1)else x
def SN(L:List (cr×Bool))(r:Int):Nat→List br→List ah→List ah
 | _,[],l=>l
 | i,x::rest,l=>SN L r (i+1) rest (gE (Fm L i false i 0) r x.ID l)
abbrev Lf(s:ae)(r:Int)(l:List ah):List ah:=SN (z9 s s.au) r 0 s.au l
set_option maxHeartbeats 4000000 in
theorem Vr(s:ae)(r:Int)(l:List ah)(hw:s.wf)(iH:s.ay.length≤1000)(kl:∀p∈s.ay,p.aL.length≤1000)(kC:s.au.length≤100000)(hl:l.length≤100000000):
  JJ 57 [.ptr (.ext 0) 0] [bd s r l] (.dE []) [bd s r (Lf s r l)]:=by
 have fw:maxLen≤9223372036854775807:=by decide
 unfold Lf;have OE:=IY s r l hw iH kl kC;have hLl:=IZ s s.au;obtain⟨L,hL⟩:∃L,z9 s s.au=L:=⟨_,rfl⟩
 rw[hL]at OE hLl ⊢;refine JJ.intro Tryz.func57 rfl rfl rfl rfl ?_;refine⟨_,_,OE,rfl,?_⟩;refine⟨_,al _ _,?_⟩;obtain⟨R,hR⟩:∃R,SN L r 0 s.au l=R:=⟨_,rfl⟩
 rw[hR];refine⟨[0,2,3,17,18,19],[.ext 0],fun q S=>∃(i:Nat) (o:List ah),i≤s.au.length∧q=s.au.length-i∧o.length≤l.length+i∧SN L r i (s.au.drop i) o=R∧
  S=St.mk' [(0,.ptr (.ext 0) 0),(2,.p (.sl 9 (L.map fun y=>y.1.enc))),(3,.p (.sl 1 (L.map fun y=>zg y.2))),(17,.p (.sl 7 (s.au.map br.enc))),(18,nI s.au.length),(19,nI i)] [(.ext 0,bd s r o)],⟨_,0,l,by omega,rfl,by omega,hR,rfl⟩,?_⟩
 rintro q S ⟨i,o,hi,rfl,iz,aw,rfl⟩;refine ab (fun h=>?_) (fun h=>?_)
 ·have h:=of_decide_eq_true h;have aN:i<s.au.length:=by omega
  have bW:=ao br.enc s.au i aN;rw[aF aN]at aw;obtain⟨x,hx⟩:∃x,x=s.au.getD i default:=⟨_,rfl⟩
  rw[←hx]at bW aw;have aw:SN L r (i+1) (s.au.drop (i+1)) (gE (Fm L i false i 0) r x.ID o)=R:=aw;have Ei:=cS (Fm L i false i 0) r x.ID o;obtain⟨Z,hZ⟩:∃Z,Fm L i false i 0=Z:=⟨_,rfl⟩
  rw[hZ]at aw Ei;refine⟨_,bW,?_⟩;refine⟨rfl,?_⟩;refine⟨[0,2,3,4,5,6,7,17,18,19],[.ext 0,.own 5],fun q S=>∃(k:Nat) (e:Bool),k≤i∧q=i-k∧Fm L i e (i-k) k=Z∧
   S=St.mk' [(0,.ptr (.ext 0) 0),(2,.p (.sl 9 (L.map fun y=>y.1.enc))),(3,.p (.sl 1 (L.map fun y=>zg y.2))),(4,nI i),(5,.ptr (.own 5) 0),(6,nB e),(7,nI k),(17,.p (.sl 7 (s.au.map br.enc))),(18,nI s.au.length),(19,nI i)] [(.ext 0,bd s r o),(.own 5,.pure 117 x.enc)],⟨_,0,false,by omega,rfl,hZ,rfl⟩,?_⟩
  rintro q S ⟨k,e,hk,rfl,OF,rfl⟩;refine⟨_,fun _=>Vp (show i<L.length by omega),?_⟩;refine ab (fun h=>?_) (fun h=>?_)
  ·have h:(bif(bif decide ((k:Int)<i)then !(L.getD i default).2 else false)then !e else false)=true:=h;simp only[aR,Bool.and_eq_true,decide_eq_true_eq]at h;have hki:k<i:=by omega
   obtain⟨n,hn⟩:∃n,i-k=n+1:=⟨i-k-1,by omega⟩
   rw[hn]at OF;unfold Fm at OF;rw[if_pos (by rw[aR,h.1.2,h.2];rfl),show n=i-(k+1)by omega]at OF;refine⟨rfl,?_⟩;refine⟨_,Vp (show k<L.length by omega),?_⟩;refine⟨_,fun _=>Yx (show k<L.length by omega),?_⟩;refine⟨_,fun _=>Yx (show i<L.length by omega),?_⟩;refine⟨_,fun _=>RN _ _,?_⟩;refine⟨_,wrap_i64 (by omega) (by omega),?_⟩;exact⟨i-(k+1),by omega,k+1,_,by omega,rfl,OF,rfl⟩
  ·have h:(bif(bif decide ((k:Int)<i)then !(L.getD i default).2 else false)then !e else false)=false:=h;have he:e=Z:=by
    rw[←OF];cases hn:i-k with
    | zero=>rfl
    | succ n=>
     unfold Fm;rw[if_neg];intro h2;rw[aR,aR,decide_eq_true (by omega)]at h;rw[aR]at h2;rw[Bool.true_and]at h;rw[h2]at h;cases h
   subst he;refine⟨_,_,ix s r o e x.ID (by omega),rfl,?_⟩;refine⟨_,wrap_i64 (by omega) (by omega),?_⟩;exact⟨s.au.length-(i+1),by omega,i+1,_,by omega,rfl,by omega,aw,rfl⟩
 ·have h:=of_decide_eq_false h;rw[List.drop_eq_nil_of_le (by omega)]at aw;have aw:o=R:=aw;subst aw;exact⟨rfl,rfl⟩
end Go.Hm
set_option maxRecDepth 4096
namespace Go.Hm
open Go.Proofs
def ck.final(g:ck):Bool:=bif decide (g.cR>0)then(g.ending==Pq .i64 1 (g.cR-1))else false
theorem qW(g:ck)(h1:iO g.cR):JJ 110 [.agg g.enc] [] (nB g.final) []:=by
 refine JJ.intro Tryz.func110 rfl rfl rfl rfl ?_;obtain⟨r1,r2⟩:=h1;refine⟨rfl,?_⟩;refine⟨g.cR-1,fun h=>wrap_i64 (by have:=of_decide_eq_true h;omega) (by omega),?_⟩;refine⟨Pq .i64 1 (g.cR-1),fun h=>⟨by have:=of_decide_eq_true h;omega,rfl⟩,?_⟩;exact⟨rfl,rfl⟩
end Go.Hm
set_option maxRecDepth 8000
namespace Go.Hm
open Go.Proofs
theorem JJ.OG{ι:Type}{f:FuncId}{fn:Func}{c:Code}(hf:Tryz.prog.funcs[f]? =some fn)(Ep:(fn.name== "runtime.NumGoroutine")=false)(hb:fn.body=some c)(cq:codeOk fn.ntmps c=true)(hex:rk c=true)
  {args:List AV} {ext:List er} {r:ι→AV} {ext':ι→List er} {P:ι→Prop} (hle:Nat.ble args.length fn.ntmps=true)
  (h:oK te JJ c (St.enter args ext) (fun e S=>∃i,P i∧pB te fn.results.toList ext.length (fun agf bs=>agf=r i∧bs=ext' i) e S)):∃i,P i∧JJ f args ext (r i) (ext' i):=by
 have h2:oK te JJ c (St.enter args ext) (fun e S=>∃i: {i//P i},pB te fn.results.toList ext.length (fun agf bs=>agf=r i.1∧bs=ext' i.1) e S):=
  jF c _ hex (fun e S h=>by obtain⟨i,hp,hw⟩:=h;exact⟨⟨i,hp⟩,hw⟩) h
 obtain⟨⟨i,hp⟩,hi⟩:=vn c _ hex h2;exact⟨i,hp,JJ.intro hf Ep hb cq hle hi⟩
theorem k8(z:Int):0≤IntKind.u8.wrap z∧IntKind.u8.wrap z<256:=by
 have:IntKind.u8.wrap z=z%256:=rfl;omega
set_option maxHeartbeats 4000000 in
theorem I0(x:Int):∃n:Int,True∧JJ 209 [.p (.int .u64 x)] [] (nI n) []:=by
 refine JJ.OG Tryz.func209 rfl rfl rfl rfl (r:=fun n=>nI n) (ext':=fun _=> []) (P:=fun _=>True) rfl ?_;refine ab (fun _=>?_) (fun _=>?_)
 ·refine⟨_,⟨by decide,rfl⟩,?_⟩;refine ab (fun _=>?_) (fun _=>?_)
  ·refine⟨_,⟨by decide,rfl⟩,?_⟩;refine⟨_,rfl,?_⟩;refine ab (fun _=>?_) (fun _=>?_)
   ·refine⟨_,⟨by decide,rfl⟩,?_⟩;refine⟨_,rfl,?_⟩;refine⟨_,rfl,?_⟩;refine⟨⟨(k8 _).1,?_⟩,?_⟩
    ·exact Int.lt_of_lt_of_le (k8 _).2 (by decide)
    refine⟨_,rfl,?_⟩;refine⟨_,rfl,?_⟩;exact⟨_,trivial,rfl,rfl⟩
   ·refine⟨_,rfl,?_⟩;refine⟨⟨(k8 _).1,?_⟩,?_⟩
    ·exact Int.lt_of_lt_of_le (k8 _).2 (by decide)
    refine⟨_,rfl,?_⟩;refine⟨_,rfl,?_⟩;exact⟨_,trivial,rfl,rfl⟩
  ·refine ab (fun _=>?_) (fun _=>?_)
   ·refine⟨_,⟨by decide,rfl⟩,?_⟩;refine⟨_,rfl,?_⟩;refine⟨_,rfl,?_⟩;refine⟨⟨(k8 _).1,?_⟩,?_⟩
    ·exact Int.lt_of_lt_of_le (k8 _).2 (by decide)
    refine⟨_,rfl,?_⟩;refine⟨_,rfl,?_⟩;exact⟨_,trivial,rfl,rfl⟩
   ·refine⟨_,rfl,?_⟩;refine⟨⟨(k8 _).1,?_⟩,?_⟩
    ·exact Int.lt_of_lt_of_le (k8 _).2 (by decide)
    refine⟨_,rfl,?_⟩;refine⟨_,rfl,?_⟩;exact⟨_,trivial,rfl,rfl⟩
 ·refine ab (fun _=>?_) (fun _=>?_)
  ·refine⟨_,⟨by decide,rfl⟩,?_⟩;refine⟨_,rfl,?_⟩;refine ab (fun _=>?_) (fun _=>?_)
   ·refine⟨_,⟨by decide,rfl⟩,?_⟩;refine⟨_,rfl,?_⟩;refine⟨_,rfl,?_⟩;refine⟨⟨(k8 _).1,?_⟩,?_⟩
    ·exact Int.lt_of_lt_of_le (k8 _).2 (by decide)
    refine⟨_,rfl,?_⟩;refine⟨_,rfl,?_⟩;exact⟨_,trivial,rfl,rfl⟩
   ·refine⟨_,rfl,?_⟩;refine⟨⟨(k8 _).1,?_⟩,?_⟩
    ·exact Int.lt_of_lt_of_le (k8 _).2 (by decide)
    refine⟨_,rfl,?_⟩;refine⟨_,rfl,?_⟩;exact⟨_,trivial,rfl,rfl⟩
  ·refine ab (fun _=>?_) (fun _=>?_)
   ·refine⟨_,⟨by decide,rfl⟩,?_⟩;refine⟨_,rfl,?_⟩;refine⟨_,rfl,?_⟩;refine⟨⟨(k8 _).1,?_⟩,?_⟩
    ·exact Int.lt_of_lt_of_le (k8 _).2 (by decide)
    refine⟨_,rfl,?_⟩;refine⟨_,rfl,?_⟩;exact⟨_,trivial,rfl,rfl⟩
   ·refine⟨_,rfl,?_⟩;refine⟨⟨(k8 _).1,?_⟩,?_⟩
    ·exact Int.lt_of_lt_of_le (k8 _).2 (by decide)
    refine⟨_,rfl,?_⟩;refine⟨_,rfl,?_⟩;exact⟨_,trivial,rfl,rfl⟩
noncomputable def SO(x:Int):Int:=(I0 x).choose
theorem RO(x:Int):JJ 209 [.p (.int .u64 x)] [] (nI (SO x)) []:=(I0 x).choose_spec.2
theorem xx(x:Int):JJ 200 [.p (.int .u64 x)] [] (nI (SO x)) []:=by
 refine JJ.intro Tryz.func200 rfl rfl rfl rfl ?_;refine ab (fun h=>by cases h) (fun _=>?_);refine⟨_,RO x,?_⟩;exact⟨rfl,rfl⟩
theorem Be{p:Int}(h:0≤p∧p≤8):iO p:=⟨by omega,by omega⟩
def RP(x:ck×Bool):AV:= .dE [.agg x.1.enc,nB x.2]
set_option maxHeartbeats 8000000 in
theorem Dk(g:ck)(m:aj)(hp:0≤g.cR∧g.cR≤8)(hre:0≤m.bS∧m.bS≤8):
  ∃x:ck×Bool,(0≤x.1.cR∧x.1.cR≤8)∧JJ 166 [.agg g.enc,.agg m.enc] [] (RP x) []:=by
 refine JJ.OG Tryz.func166 rfl rfl rfl rfl (r:=RP) (ext':=fun _=> []) (P:=fun x:ck×Bool=>0≤x.1.cR∧x.1.cR≤8) rfl ?_;refine ab (fun _=>?_) (fun _=>?_)
 ·refine⟨rfl,?_⟩;exact⟨(g,false),hp,rfl,rfl⟩
 ·refine ab (fun _=>?_) (fun _=>?_)
  ·refine⟨_,fun _=>rfl,?_⟩;refine ab (fun _=>?_) (fun _=>?_)
   ·refine⟨rfl,?_⟩;exact⟨(g,false),hp,rfl,rfl⟩
   ·refine⟨_,rfl,?_⟩;refine⟨_,xx _,?_⟩;refine⟨_,rfl,?_⟩;refine⟨[.no,.no,.no,.no,.no,.no,.ld (.own 3),.no,.st (.own 2)],rfl,?_⟩;refine⟨rfl,?_⟩;refine⟨rfl,?_⟩;refine⟨rfl,?_⟩;refine⟨rfl,?_⟩;refine⟨rfl,?_⟩;refine⟨_,rfl,?_⟩;refine⟨rfl,?_⟩;refine⟨rfl,?_⟩;refine⟨rfl,?_⟩;refine⟨rfl,?_⟩;refine⟨rfl,?_⟩;refine⟨rfl,?_⟩;refine⟨rfl,?_⟩;refine⟨rfl,?_⟩;refine ab (fun _=>?_) (fun _=>?_)
    ·refine⟨_,rfl,?_⟩;refine ab (fun _=>?_) (fun _=>?_)
     ·refine⟨rfl,?_⟩;exact⟨((⟨g.started,g.body,uE .i64 g.used m.cF,m.cF,false,g.cR⟩:ck),false),hp,rfl,rfl⟩
     ·refine ab (fun _=>?_) (fun _=>?_)
      ·refine⟨rfl,?_⟩;refine⟨_,qW (⟨g.started,g.body,uE .i64 g.used m.cF,m.cF,false,g.cR⟩:ck) (Be hp),?_⟩;refine⟨_,fun _=>rfl,?_⟩;refine⟨_,fun _=>xx _,?_⟩;refine ab (fun _=>?_) (fun _=>?_)
       ·refine⟨rfl,?_⟩;exact⟨((⟨g.started,g.body,uE .i64 g.used m.cF,m.cF,false,g.cR⟩:ck),false),hp,rfl,rfl⟩
       ·refine⟨rfl,?_⟩;exact⟨(({((⟨g.started,g.body,uE .i64 g.used m.cF,m.cF,false,g.cR⟩:ck):ck)with cR:=m.bS,ended:=true} :ck),true),hre,rfl,rfl⟩
      ·refine⟨rfl,?_⟩;exact⟨((⟨g.started,g.body,uE .i64 g.used m.cF,m.cF,false,g.cR⟩:ck),true),hp,rfl,rfl⟩
    ·refine⟨rfl,?_⟩;refine⟨_,fun _=>rfl,?_⟩;refine⟨_,fun _ _=>qW (⟨g.started,g.body,uE .i64 g.used m.cF,m.cF,false,g.cR⟩:ck) (Be hp),?_⟩;refine⟨_,fun _ _ _=>⟨hp.1,rfl⟩,?_⟩;refine⟨_,fun _ _ _=>rfl,?_⟩;refine ab (fun _=>?_) (fun _=>?_)
     ·refine⟨rfl,?_⟩;exact⟨((⟨g.started,g.body,uE .i64 g.used m.cF,m.cF,false,g.cR⟩:ck),false),hp,rfl,rfl⟩
     ·refine ab (fun _=>?_) (fun _=>?_)
      ·refine⟨rfl,?_⟩;refine⟨_,qW (⟨g.started,g.body,uE .i64 g.used m.cF,m.cF,false,g.cR⟩:ck) (Be hp),?_⟩;refine⟨_,fun _=>rfl,?_⟩;refine⟨_,fun _=>xx _,?_⟩;refine ab (fun _=>?_) (fun _=>?_)
       ·refine⟨rfl,?_⟩;exact⟨((⟨g.started,g.body,uE .i64 g.used m.cF,m.cF,false,g.cR⟩:ck),false),hp,rfl,rfl⟩
       ·refine⟨rfl,?_⟩;exact⟨(({((⟨g.started,g.body,uE .i64 g.used m.cF,m.cF,false,g.cR⟩:ck):ck)with cR:=m.bS,ended:=true} :ck),true),hre,rfl,rfl⟩
      ·refine⟨rfl,?_⟩;exact⟨((⟨g.started,g.body,uE .i64 g.used m.cF,m.cF,false,g.cR⟩:ck),true),hp,rfl,rfl⟩
  ·refine ab (fun _=>?_) (fun _=>?_)
   ·refine⟨rfl,?_⟩;exact⟨(g,false),hp,rfl,rfl⟩
   ·refine ab (fun _=>?_) (fun _=>?_)
    ·refine⟨rfl,?_⟩;refine⟨_,qW g (Be hp),?_⟩;refine⟨_,fun _=>rfl,?_⟩;refine⟨_,fun _=>xx _,?_⟩;refine ab (fun _=>?_) (fun _=>?_)
     ·refine⟨rfl,?_⟩;exact⟨(g,false),hp,rfl,rfl⟩
     ·refine⟨rfl,?_⟩;exact⟨(({(g:ck)with cR:=m.bS,ended:=true} :ck),true),hre,rfl,rfl⟩
    ·refine⟨rfl,?_⟩;exact⟨(g,true),hp,rfl,rfl⟩
open Go.Proofs
def Aa:ck:=⟨false,0,0,0,false,0⟩
def Fo(g:ck)(m:aj):Prop:=(0≤g.cR∧g.cR≤8)∧(0≤m.bS∧m.bS≤8)
open Classical in
noncomputable def Wt(g:ck)(m:aj):ck×Bool:=if h:Fo g m then(Dk g m h.1 h.2).choose else(Aa,false)
theorem I1(g:ck)(m:aj)(h:Fo g m):JJ 166 [.agg g.enc,.agg m.enc] [] (RP (Wt g m)) []∧0≤(Wt g m).1.cR∧(Wt g m).1.cR≤8:=by
 unfold Wt;rw[dif_pos h];exact⟨(Dk g m h.1 h.2).choose_spec.2,(Dk g m h.1 h.2).choose_spec.1⟩
def Vs(g:ck)(m:aj):ck×Bool:=if(m.bS !=0)=true then(Aa,true)else({g with body:=IntKind.i64.wrap (g.body+1)},true)
def Vt(g:ck)(m:aj):ck×Bool:=if m.im=true then(if g.started=true then(g,false)else Vs ⟨true,0,0,0,false,0⟩ m)else Vs g m
noncomputable def SP(g:ck)(m:aj):ck×Bool:=
 if(m.cF !=0)=true then Wt g m
 else if(g.ending !=0)=true then(if(!g.final)=true then(g,false)else Vt Aa m)
 else Vt g m
theorem Vu(g:ck)(m:aj)(h:Fo g m):0≤(SP g m).1.cR∧(SP g m).1.cR≤8:=by
 have h0:∀g:ck,(0≤g.cR∧g.cR≤8)→0≤(Vt g m).1.cR∧(Vt g m).1.cR≤8:=fun g hg=>by
  unfold Vt Vs;split
  ·split
   ·exact hg
   ·split
    ·exact⟨by decide,by decide⟩
    ·exact⟨by decide,by decide⟩
  ·split
   ·exact⟨by decide,by decide⟩
   ·exact hg
 unfold SP;split
 ·exact(I1 g m h).2
 ·split
  ·split
   ·exact h.1
   ·exact h0 _ ⟨by decide,by decide⟩
  ·exact h0 _ h.1
set_option maxHeartbeats 4000000 in
theorem RQ(g:ck)(m:aj)(h0:Fo g m):JJ 109 [.agg g.enc,.agg m.enc] [] (RP (SP g m)) []:=by
 have Yy:=(I1 g m h0).1;obtain⟨X,hX⟩:∃X,Wt g m=X:=⟨_,rfl⟩
 rw[hX]at Yy;unfold SP;rw[hX];refine JJ.intro Tryz.func109 rfl rfl rfl rfl ?_;refine ab (fun h1=>?_) (fun h1=>?_)
 ·rw[if_pos (show(m.cF !=0)=true from h1)];refine⟨_,Yy,?_⟩;refine⟨rfl,?_⟩;exact⟨rfl,rfl⟩
 ·rw[if_neg (by rw[show(m.cF !=0)=false from h1];simp)];refine ab (fun h2=>?_) (fun h2=>?_)
  ·rw[if_pos (show(g.ending !=0)=true from h2)];refine⟨_,qW g (Be h0.1),?_⟩;refine ab (fun h6=>?_) (fun h6=>?_)
   ·rw[if_pos (show(!g.final)=true from h6)];refine⟨rfl,?_⟩;exact⟨rfl,rfl⟩
   ·rw[if_neg (by rw[show(!g.final)=false from h6];simp)];refine⟨rfl,?_⟩;unfold Vt;refine ab (fun h3=>?_) (fun h3=>?_)
    ·rw[if_pos (show(m.im)=true from h3)];refine ab (fun h=>by cases h) (fun _=>?_);rw[if_neg (show ¬Aa.started=true by decide)];refine⟨rfl,?_⟩;unfold Vs;refine⟨_,rfl,?_⟩;refine ab (fun h5=>?_) (fun h5=>?_)
     ·rw[if_pos (show(m.bS !=0)=true from h5)];refine⟨rfl,?_⟩;refine⟨rfl,?_⟩;exact⟨rfl,rfl⟩
     ·rw[if_neg (by rw[show(m.bS !=0)=false from h5];simp)];refine⟨rfl,?_⟩;exact⟨rfl,rfl⟩
    ·rw[if_neg (by rw[show(m.im)=false from h3];simp)];unfold Vs;refine⟨_,rfl,?_⟩;refine ab (fun h5=>?_) (fun h5=>?_)
     ·rw[if_pos (show(m.bS !=0)=true from h5)];refine⟨rfl,?_⟩;refine⟨rfl,?_⟩;exact⟨rfl,rfl⟩
     ·rw[if_neg (by rw[show(m.bS !=0)=false from h5];simp)];refine⟨rfl,?_⟩;exact⟨rfl,rfl⟩
  ·rw[if_neg (by rw[show(g.ending !=0)=false from h2];simp)];unfold Vt;refine ab (fun h3=>?_) (fun h3=>?_)
   ·rw[if_pos (show(m.im)=true from h3)];refine ab (fun h4=>?_) (fun h4=>?_)
    ·rw[if_pos (show(g.started)=true from h4)];refine⟨rfl,?_⟩;exact⟨rfl,rfl⟩
    ·rw[if_neg (by rw[show(g.started)=false from h4];simp)];refine⟨rfl,?_⟩;unfold Vs;refine⟨_,rfl,?_⟩;refine ab (fun h5=>?_) (fun h5=>?_)
     ·rw[if_pos (show(m.bS !=0)=true from h5)];refine⟨rfl,?_⟩;refine⟨rfl,?_⟩;exact⟨rfl,rfl⟩
     ·rw[if_neg (by rw[show(m.bS !=0)=false from h5];simp)];refine⟨rfl,?_⟩;exact⟨rfl,rfl⟩
   ·rw[if_neg (by rw[show(m.im)=false from h3];simp)];unfold Vs;refine⟨_,rfl,?_⟩;refine ab (fun h5=>?_) (fun h5=>?_)
    ·rw[if_pos (show(m.bS !=0)=true from h5)];refine⟨rfl,?_⟩;refine⟨rfl,?_⟩;exact⟨rfl,rfl⟩
    ·rw[if_neg (by rw[show(m.bS !=0)=false from h5];simp)];refine⟨rfl,?_⟩;exact⟨rfl,rfl⟩
def Ab(m:aj):Bool:=bif(bif(m.bS !=0)then !(decide (2≤m.bS)&&decide (m.bS≤8))else false)then true else !(decide (0≤m.cF)&&decide (m.cF≤255))
theorem RR(i:Int)(m:aj):JJ 108 [nI i,.agg m.enc] [] (nB (Ab m)) []:=by
 refine JJ.intro Tryz.func108 rfl rfl rfl rfl ?_;refine⟨_,fun _=>ir _ _ _,?_⟩;refine⟨_,fun _=>ir _ _ _,?_⟩;exact⟨rfl,rfl⟩
theorem vG(w:Nat→aj→Bool)(r:Int):∀(ms:List aj) (i:Nat) (l:List ah),l.length≤(gS w r i ms l).length∧((gS w r i ms l).length=l.length→(∀j,j<ms.length→w (i+j) (ms.getD j default)=false)∧gS w r i ms l=l)
 | [],i,l=>⟨Nat.le_refl _,fun _=>⟨fun j hj=>by simp at hj,rfl⟩⟩
 | m::rest,i,l=>by
  have ih:=vG w r rest (i+1) (gE (w i m) r m.ID l);have e:gS w r i (m::rest) l=gS w r (i+1) rest (gE (w i m) r m.ID l):=rfl;rw[e];have Yz:l.length≤(gE (w i m) r m.ID l).length∧((gE (w i m) r m.ID l).length=l.length→w i m=false∧gE (w i m) r m.ID l=l):=by
   unfold gE;cases hw:w i m with
   | true=>simp
   | false=>simp
  refine⟨Nat.le_trans Yz.1 ih.1,fun h=>?_⟩;have h1:=ih.2 (by omega);have h2:=Yz.2 (by omega);refine⟨fun j hj=>?_,by rw[h1.2,h2.2]⟩;cases j with
  | zero=>exact h2.1
  | succ j=>
   have:=h1.1 j (by simpa using hj);rw[show i+(j+1)=i+1+j by omega];exact this
noncomputable def RS(r:Int):ck→List aj→List ah→List ah×Option ck
 | g,[],l=>(l,some g)
 | g,m::rest,l=>if(!(SP g m).2)=true then(gE true r m.ID l,none)else RS r (SP g m).1 rest l
def OH(g:ck):Bool:=bif(bif g.started then(g.ending==0)else false)then true else(bif(g.ending !=0)then !g.final else false)
noncomputable def Pl(s:ae)(r:Int)(l:List ah):List ah:=
 let l1:=gS (fun _ m=>Ab m) r 0 s.aa l
 if decide ((l1.length:Int)>l.length)=true then l1
 else match RS r Aa s.aa l1 with
  | (l2,none)=>l2
  | (l2,some g)=>gE (OH g) r (s.aa.getD (s.aa.length-1) default).ID l2
theorem RT{m:aj}(h:Ab m=false):0≤m.bS∧m.bS≤8:=by
 unfold Ab at h;simp only[aX,aR,Bool.or_eq_false_iff,Bool.and_eq_false_iff,Bool.not_eq_false',bne_eq_false_iff_eq,Bool.and_eq_true,decide_eq_true_eq]at h;omega
set_option maxHeartbeats 4000000 in
theorem Vv(s:ae)(r:Int)(l:List ah)(hw:s.wf)(hm:s.aa.length≤1000000)(hm0:0<s.aa.length)(hl:l.length≤100000000):
  JJ 58 [.ptr (.ext 0) 0] [bd s r l] (.dE []) [bd s r (Pl s r l)]:=by
 have fw:maxLen≤9223372036854775807:=by decide
 have ZI:=ji (fun _ m=>Ab m) r s.aa 0 l;have Er:=vG (fun _ m=>Ab m) r s.aa 0 l;have h83:=N8 s r l hm hl (fun i m _ wW o=>RR i m);unfold Pl;obtain⟨l1,si⟩:∃l1,gS (fun _ m=>Ab m) r 0 s.aa l=l1:=⟨_,rfl⟩
 rw[si]at ZI Er h83;simp only[si];refine JJ.intro Tryz.func58 rfl rfl rfl rfl ?_;refine⟨_,al _ _,?_⟩;refine⟨_,_,h83,rfl,?_⟩;refine⟨_,al _ _,?_⟩;refine ab (fun h=>?_) (fun h=>?_)
 ·rw[if_pos (show decide ((l1.length:Int)>l.length)=true from h)];exact⟨rfl,rfl⟩
 ·have h:decide ((l1.length:Int)>l.length)=false:=h;rw[if_neg (by rw[h];simp)];have h:=of_decide_eq_false h;obtain⟨hz,hle⟩:=Er.2 (by omega);have hg0:∀m∈s.aa,0≤m.bS∧m.bS≤8:=fun m wW=>by
   obtain⟨j,hj,e⟩:=List.getElem_of_mem wW;have:=hz j hj;rw[List.getD_eq_getElem?_getD,List.getElem?_eq_getElem hj]at this;rw[←e];exact RT this
  refine⟨_,al _ _,?_⟩;obtain⟨R,hR⟩:∃R,RS r Aa s.aa l1=R:=⟨_,rfl⟩
  rw[hR];refine⟨[0,3,26,27,28],[.ext 0,.own 3],fun q S=>∃(i:Nat) (g:ck),i≤s.aa.length∧q=s.aa.length-i∧(0≤g.cR∧g.cR≤8)∧RS r g (s.aa.drop i) l1=R∧
   S=St.mk' [(0,.ptr (.ext 0) 0),(3,.ptr (.own 3) 0),(26,.p (.sl 22 (s.aa.map aj.enc))),(27,nI s.aa.length),(28,nI i)] [(.ext 0,bd s r l1),(.own 3,.pure 197 g.enc)],⟨_,0,Aa,by omega,rfl,⟨by decide,by decide⟩,hR,rfl⟩,?_⟩
  rintro q S ⟨i,g,hi,rfl,hgp,aw,rfl⟩;refine ab (fun h=>?_) (fun h=>?_)
  ·have h:=of_decide_eq_true h;have aN:i<s.aa.length:=by omega
   have bW:=ao aj.enc s.aa i aN;have cV:=av aN;rw[aF aN]at aw;obtain⟨m,Lj⟩:∃m,m=s.aa.getD i default:=⟨_,rfl⟩
   rw[←Lj]at bW cV aw;have hG:Fo g m:=⟨hgp,hg0 m cV⟩;have YA:=RQ g m hG;have CC:=Vu g m hG;unfold RS at aw;obtain⟨X,hX⟩:∃X,SP g m=X:=⟨_,rfl⟩
   rw[hX]at YA CC aw;refine⟨_,bW,?_⟩;refine⟨rfl,?_⟩;refine⟨_,YA,?_⟩;refine⟨rfl,?_⟩;refine ab (fun h=>?_) (fun h=>?_)
   ·rw[if_pos (show(!X.2)=true from h)]at aw;rw[←aw];refine⟨_,_,ix s r l1 true m.ID (by omega),rfl,?_⟩;exact⟨rfl,rfl⟩
   ·rw[if_neg (by rw[show(!X.2)=false from h];simp)]at aw;refine⟨_,wrap_i64 (by omega) (by omega),?_⟩;exact⟨s.aa.length-(i+1),by omega,i+1,_,by omega,rfl,CC,aw,rfl⟩
  ·have h:=of_decide_eq_false h;rw[List.drop_eq_nil_of_le (by omega)]at aw;have aw:(l1,some g)=R:=aw;rw[←aw];refine⟨_,fun _ _=>qW g (Be hgp),?_⟩;refine⟨rfl,?_⟩;refine⟨_,al _ _,?_⟩;refine⟨((s.aa.length-1:Nat):Int),by rw[wrap_i64 (by omega) (by omega)];omega,?_⟩;refine⟨_,ao aj.enc s.aa (s.aa.length-1) (by omega),?_⟩;refine⟨_,_,ix s r l1 (OH g) (s.aa.getD (s.aa.length-1) default).ID (by omega),rfl,?_⟩;exact⟨rfl,rfl⟩
open Go.Proofs
def vH(h:List (cP×bV)):List (List PV×List PV):=h.map fun e=>(e.1.enc,e.2.enc)
def dM:List (cP×bV)→cP→Option bV
 | [],_=>none
 | e::r,p=>if p=e.1 then some e.2 else dM r p
def Ac:List (cP×bV)→cP→bV→List (cP×bV)
 | [],p,k=> [(p,k)]
 | e::r,p,k=>if p=e.1 then(p,k)::r else e::Ac r p k
theorem zh(p q:cP):bL p.enc q.enc=some (decide (p=q)):=by
 cases p with
 | mk a b=>
  cases q with
  | mk x y=>
   have:decide ((⟨a,b⟩:cP)=⟨x,y⟩)=((a==x)&&(b==y)):=by
    rw[Bool.eq_iff_iff];simp[cP.mk.injEq]
   rw[this];all_goals rfl
theorem I2(p:cP):∀h:List (cP×bV),dS p.enc (vH h)=(dM h p).map bV.enc
 | []=>rfl
 | e::r=>by
  show(match bL p.enc e.1.enc with | some true=>some e.2.enc | _=>dS p.enc (vH r))=_;rw[zh];unfold dM;by_cases h:p=e.1
  ·rw[decide_eq_true h,if_pos h];rfl
  ·rw[decide_eq_false h,if_neg h];exact I2 p r
theorem OI(p:cP)(k:bV):∀h:List (cP×bV),o6 p.enc k.enc (vH h)=vH (Ac h p k)
 | []=>rfl
 | e::r=>by
  show(match bL p.enc e.1.enc with | some true=>(p.enc,k.enc)::vH r | _=>(e.1.enc,e.2.enc)::o6 p.enc k.enc (vH r))=_;rw[zh];unfold Ac;by_cases h:p=e.1
  ·rw[decide_eq_true h,if_pos h];rfl
  ·rw[decide_eq_false h,if_neg h,OI p k r];rfl
theorem zi(p:cP)(h:List (cP×bV)):gP p.enc (vH h):=by
 intro e he;obtain⟨x,_,rfl⟩:=List.mem_map.1 he;exact⟨_,zh p x.1⟩
def vI(m:aj)(x:cY):aD:=((m.Cells.getD x.bA.toNat default).ai.getD x.cj.toNat default).ak.getD x.Event.toNat default
structure Hv(m:aj)(x:cY):Prop where
 aC:0≤x.bA∧x.bA<m.Cells.length
 SQ:0≤x.cj∧x.cj<(m.Cells.getD x.bA.toNat default).ai.length
 event:0≤x.Event∧x.Event<((m.Cells.getD x.bA.toNat default).ai.getD x.cj.toNat default).ak.length
def wI(i:Nat)(m:aj):List cY→List (cP×bV)→List (cP×bV)
 | [],h=>h
 | x::r,h=>wI i m r (Ac h (vI m x).ID ⟨i,x.On,x.bA,x.cj⟩)
def zj:Nat→List aj→List (cP×bV)→List (cP×bV)
 | _,[],h=>h
 | i,m::r,h=>zj (i+1) r (wI i m (cJ m).1 h)
def ae.sH(s:ae):List (cP×bV):=zj 0 s.aa []
set_option maxHeartbeats 4000000 in
theorem Vw(s:ae)(hl:s.aa.length≤100)(hm:∀m∈s.aa,m.wf∧vA m∧m.cI=0∧(cJ m).1.length≤100000∧ ∀x∈(cJ m).1,Hv m x):
  JJ 32 [.agg s.enc] [] (.fI true (vH s.sH)) []:=by
 refine XX.intro Tryz.func32 rfl rfl rfl rfl ?_;unfold ae.sH;obtain⟨R,hR⟩:∃R,zj 0 s.aa []=R:=⟨_,rfl⟩
 rw[hR];refine⟨_,al _ _,?_⟩;refine⟨[1,3,13,14,15],[.own 1,.own 11],fun q S=>∃(i:Nat) (h:List (cP×bV)),i≤s.aa.length∧q=s.aa.length-i∧zj i (s.aa.drop i) h=R∧
  S=St.mk' [(1,.ptr (.own 1) 0),(3,.dF (.own 11)),(13,.p (.sl 22 (s.aa.map aj.enc))),(14,nI s.aa.length),(15,nI i)] [(.own 1,.pure 27 s.enc),(.own 11,.mp true (vH h))],⟨_,0,[],by omega,rfl,hR,rfl⟩,?_⟩
 rintro q S ⟨i,h,hi,rfl,aw,rfl⟩;refine ab (fun hc=>?_) (fun hc=>?_)
 ·have hc:=of_decide_eq_true hc;have mW:i<s.aa.length:=by omega
  rw[aF mW]at aw;have cV:=av mW;obtain⟨m,Lj⟩:∃m,m=s.aa.getD i default:=⟨_,rfl⟩
  rw[←Lj]at aw cV;obtain⟨q1,q2,q3,q4,q5⟩:=hm m cV;have X6:=E3 m q1 q2 q3;obtain⟨l,hL⟩:∃l,l=(cJ m).1:=⟨_,rfl⟩
  rw[←hL]at X6 q4 q5;have aw:zj (i+1) (s.aa.drop (i+1)) (wI i m (cJ m).1 h)=R:=aw;rw[←hL]at aw;obtain⟨Z,hZ⟩:∃Z,wI i m l h=Z:=⟨_,rfl⟩
  rw[hZ]at aw;refine⟨m.enc,by rw[Lj];exact ao _ _ _ mW,?_⟩;refine⟨rfl,?_⟩;refine Or.inl ?_;refine⟨_,X6,?_⟩;refine⟨_,al _ _,?_⟩;refine⟨[1,3,4,5,13,14,15,25,26,27],[.own 1,.own 5,.own 11],fun q S=>∃(j:Nat) (g:List (cP×bV)),j≤l.length∧q=l.length-j∧wI i m (l.drop j) g=Z∧
   S=St.mk' [(1,.ptr (.own 1) 0),(3,.dF (.own 11)),(4,nI i),(5,.ptr (.own 5) 0),(13,.p (.sl 22 (s.aa.map aj.enc))),(14,nI s.aa.length),(15,nI i),(25,.p (.sl 5 (l.map cY.enc))),(26,nI l.length),(27,nI j)]
    [(.own 1,.pure 27 s.enc),(.own 5,.pure 82 m.enc),(.own 11,.mp true (vH g))],⟨_,0,h,by omega,rfl,hZ,rfl⟩,?_⟩
  rintro q S ⟨j,g,hj,rfl,fh,rfl⟩;refine ab (fun hc=>?_) (fun hc=>?_)
  ·have hc:=of_decide_eq_true hc;have DG:j<l.length:=by omega
   rw[aF DG]at fh;have cq:=q5 _ (av DG);obtain⟨x,hx⟩:∃x,x=l.getD j default:=⟨_,rfl⟩
   rw[←hx]at fh cq;have fh:wI i m (l.drop (j+1)) (Ac g (vI m x).ID ⟨i,x.On,x.bA,x.cj⟩)=Z:=fh;refine⟨x.enc,by rw[hx];exact ao _ _ _ DG,?_⟩;refine⟨rfl,?_⟩;refine⟨rfl,?_⟩;refine⟨_,cZ aI.enc m.Cells x.bA cq.aC.1 cq.aC.2,?_⟩;refine⟨_,cZ ax.enc (m.Cells.getD x.bA.toNat default).ai x.cj cq.SQ.1 cq.SQ.2,?_⟩;refine⟨_,cZ aD.enc ((m.Cells.getD x.bA.toNat default).ai.getD x.cj.toNat default).ak x.Event cq.event.1 cq.event.2,?_⟩;refine⟨rfl,?_⟩;refine⟨zi (vI m x).ID g,_,OI (vI m x).ID ⟨i,x.On,x.bA,x.cj⟩ g,?_⟩;refine⟨_,wrap_i64 (by omega) (by omega),?_⟩;exact⟨l.length-(j+1),by omega,j+1,_,by omega,rfl,fh,rfl⟩
  ·have hc:=of_decide_eq_false hc;obtain rfl:j=l.length:=by omega
   rw[List.drop_length]at fh;have fh:g=Z:=fh;subst fh;refine⟨_,wrap_i64 (by omega) (by omega),?_⟩;exact⟨s.aa.length-(i+1),by omega,i+1,g,by omega,rfl,aw,rfl⟩
 ·have hc:=of_decide_eq_false hc;obtain rfl:i=s.aa.length:=by omega
  rw[List.drop_length]at aw;have aw:h=R:=aw;subst aw;exact⟨rfl,rfl⟩
def sI(h:List (cP×bV))(id:cP):bV:=(dM h id).getD default
def lB(h:List (cP×bV))(l:List br):List cr:=l.map fun x=>⟨x.Kind,sI h x.dR,sI h x.To⟩
theorem OJ(id:cP)(h:List (cP×bV)):∃b cs,(match b with | true=>dS id.enc (vH h)=some cs | false=>dS id.enc (vH h)=none∧cs=(default:bV).enc)∧cs=(sI h id).enc:=by
 rw[I2];unfold sI;cases dM h id with
 | none=>exact⟨false,_,⟨rfl,rfl⟩,rfl⟩
 | some k=>exact⟨true,_,rfl,rfl⟩
theorem Vx(s:ae)(hV:JJ 6 [.agg s.enc] [] (nB true) [])(hl:s.aa.length≤100)(Tc:s.au.length≤1000)(hm:∀m∈s.aa,m.wf∧vA m∧m.cI=0∧(cJ m).1.length≤100000∧ ∀x∈(cJ m).1,Hv m x):
  JJ 10 [.agg s.enc] [] (.dE [.p (.sl 9 ((lB s.sH s.au).map cr.enc)),nI 0]) []:=by
 refine JJ.intro Tryz.func10 rfl rfl rfl rfl ?_;refine⟨_,hV,?_⟩;refine ab (fun h=>by cases h) (fun _=>?_);refine⟨_,Vw s hl hm,?_⟩;refine⟨_,al _ _,?_⟩;obtain⟨H,hH⟩:∃H,H=s.sH:=⟨_,rfl⟩
 rw[←hH];refine⟨[4,5,14,15,16],[],fun q S=>∃i:Nat,i≤s.au.length∧q=s.au.length-i∧
  S=St.mk' [(4,.own 9 ((lB H (s.au.take i)).map cr.enc)),(5,.fI true (vH H)),(14,.p (.sl 7 (s.au.map br.enc))),(15,nI s.au.length),(16,nI i)] [],⟨_,0,by omega,rfl,rfl⟩,?_⟩
 rintro q S ⟨i,hi,rfl,rfl⟩;refine ab (fun hc=>?_) (fun hc=>?_)
 ·have hc:=of_decide_eq_true hc;have mW:i<s.au.length:=by omega
  obtain⟨x,hx⟩:∃x,x=s.au.getD i default:=⟨_,rfl⟩
  refine⟨x.enc,by rw[hx];exact ao _ _ _ mW,?_⟩;refine⟨rfl,?_⟩;obtain⟨b1,c1,e1,rfl⟩:=OJ x.dR H;obtain⟨b2,c2,e2,rfl⟩:=OJ x.To H;refine⟨rfl,?_⟩;refine⟨zi x.dR H,b1,_,e1,?_⟩;refine⟨zi x.To H,b2,_,e2,?_⟩;have oY:(lB H (s.au.take i)).map cr.enc++ [(⟨x.Kind,sI H x.dR,sI H x.To⟩:cr).enc]=(lB H (s.au.take (i+1))).map cr.enc:=by
   unfold lB;rw[List.take_add_one,List.getElem?_eq_getElem mW];have:s.au[i]=x:=by rw[hx,List.getD_eq_getElem?_getD,List.getElem?_eq_getElem mW];rfl
   rw[this];simp
  refine⟨?_,_,oY,?_⟩
  ·show(((lB H (s.au.take i)).map cr.enc).length+1)*72≤140737488355328;simp[lB];omega
  refine⟨_,wrap_i64 (by omega) (by omega),?_⟩;exact⟨s.au.length-(i+1),by omega,i+1,by omega,rfl,rfl⟩
 ·have hc:=of_decide_eq_false hc;obtain rfl:i=s.au.length:=by omega
  rw[List.take_length];exact⟨rfl,rfl⟩
open Go.Proofs
section
variable {α:Type} [DecidableEq α]
def ur(enc:α→List PV)(B:List α):List (List PV×List PV):=B.map fun p=>(enc p,[.bool true])
def qq(p:α):List α→List α
 | []=> [p]
 | q::r=>if p=q then p::r else q::qq p r
theorem zk(p x:α):∀B:List α,x∈qq p B↔x=p∨x∈B
 | []=>by simp[qq]
 | q::r=>by
  unfold qq;by_cases h:p=q
  ·rw[if_pos h,List.mem_cons,List.mem_cons,h];constructor
   ·rintro(h | h)
    ·exact .inl h
    ·exact .inr (.inr h)
   ·rintro(h | h | h)
    ·exact .inl h
    ·exact .inl h
    ·exact .inr h
  ·rw[if_neg h,List.mem_cons,List.mem_cons,zk p x r];constructor
   ·rintro(h | h | h)
    ·exact .inr (.inl h)
    ·exact .inl h
    ·exact .inr (.inr h)
   ·rintro(h | h | h)
    ·exact .inr (.inl h)
    ·exact .inl h
    ·exact .inr (.inr h)
variable {enc:α→List PV} (he:∀p q,bL (enc p) (enc q)=some (decide (p=q)))
include he
theorem I3(p:α):∀B:List α,dS (enc p) (ur enc B)=if p∈B then some [PV.bool true]else none
 | []=>by simp[ur,dS]
 | q::r=>by
  show(match bL (enc p) (enc q)with | some true=>some [PV.bool true] | _=>dS (enc p) (ur enc r))=_;rw[he];by_cases h:p=q
  ·rw[decide_eq_true h,if_pos (by rw[h];exact List.mem_cons_self)]
  ·rw[decide_eq_false h];show dS (enc p) (ur enc r)=_;rw[I3 p r];by_cases h2:p∈r
   ·rw[if_pos h2,if_pos (List.mem_cons_of_mem _ h2)]
   ·rw[if_neg h2,if_neg (fun h3=>(List.mem_cons.1 h3).elim h h2)]
theorem vJ(p:α):∀B:List α,o6 (enc p) [.bool true] (ur enc B)=ur enc (qq p B)
 | []=>rfl
 | q::r=>by
  show(match bL (enc p) (enc q)with | some true=>(enc p,[PV.bool true])::ur enc r | _=>(enc q,[PV.bool true])::o6 (enc p) [.bool true] (ur enc r))=_;rw[he];unfold qq;by_cases h:p=q
  ·rw[decide_eq_true h,if_pos h];rfl
  ·rw[decide_eq_false h,if_neg h];show(enc q,[PV.bool true])::o6 (enc p) [.bool true] (ur enc r)=_;rw[vJ p r];rfl
theorem me(p:α)(B:List α):gP (enc p) (ur enc B):=by
 intro e h;obtain⟨x,_,rfl⟩:=List.mem_map.1 h;exact⟨_,he p x⟩
theorem OK(p:α)(B:List α):∃b:Bool,match b with | true=>dS (enc p) (ur enc B)=some [.bool (decide (p∈B))] | false=>dS (enc p) (ur enc B)=none∧ [PV.bool (decide (p∈B))]= [PV.bool false]:=by
 rw[I3 he];by_cases h:p∈B
 ·rw[if_pos h,decide_eq_true h];exact⟨true,rfl⟩
 ·rw[if_neg h,decide_eq_false h];exact⟨false,rfl,rfl⟩
end
theorem rG(p q:bt):bL p.enc q.enc=some (decide (p=q)):=by
 cases p with
 | mk a b c d e f g=>
  cases q with
  | mk agd b' agp agA agm agE g'=>
   have:decide ((⟨a,b,c,d,e,f,g⟩:bt)=⟨agd,b',agp,agA,agm,agE,g'⟩)=((a==agd)&&((b==b')&&((c==agp)&&((d==agA)&&((e==agm)&&((f==agE)&&(g==g'))))))):=by
    rw[Bool.eq_iff_iff];simp[bt.mk.injEq]
   rw[this];all_goals rfl
structure OL where
 last:aU
 iX:bt
 bad:List bt
def RU(x:aD)(vs:Int):Bool:=decide (vs≥x.bz.length)||decide (x.bz.getD vs.toNat default=⟨[],0⟩)
def Vy(st:OL)(y:aU):List bt:=if(bif(st.last.kG==1)then(y.Text== [])else false)=true then qq st.iX st.bad else st.bad
def OM(p:bt)(st:OL)(y:aU)(B1:List bt):List bt:=if(bif(bif(y.Text== [])then(y.kG==2)else false)then(st.last.kG !=2)else false)=true then qq p B1 else B1
def Hw(p:bt)(vs:Nat)(x:aD)(st:OL):OL:=
 if RU x vs=true then st else⟨x.bz.getD vs default,p,OM p st (x.bz.getD vs default) (Vy st (x.bz.getD vs default))⟩
def KO(i k v vs:Nat):Nat→List aD→OL→OL
 | _,[],st=>st
 | n,x::r,st=>KO i k v vs (n+1) r (Hw (kV i k v n) vs x st)
def zl(k v:Nat)(m:aj):Bool:=bif decide ((k:Int)≥m.Cells.length)then true else decide ((v:Int)≥(m.Cells.getD k default).ai.length)
def ON(k v vs:Nat):Nat→List aj→OL→OL
 | _,[],st=>st
 | i,m::r,st=>ON k v vs (i+1) r (if zl k v m=true then st else KO i k v vs 0 ((m.Cells.getD k default).ai.getD v default).ak st)
def Vz(B:List bt):OL:=⟨⟨[],0⟩,⟨0,0,0,0,0,0,0⟩,B⟩
def Dm(s:ae)(k v vs:Nat)(B:List bt):List bt:=
 let st:=ON k v vs 0 s.aa (Vz B)
 if(st.last.kG==1)=true then qq st.iX st.bad else st.bad
abbrev Dn(B:List bt):er:= .mp false (ur bt.enc B)
set_option maxHeartbeats 4000000 in
theorem RV(s:ae)(r:Int)(o:List ah)(k v vs:Nat)(B:List bt)(hw:s.wf):
  JJ 104 [.ptr (.ext 0) 0,nI k,nI v,nI vs,.dF (.ext 1)] [bd s r o,Dn B] (.dE []) [bd s r o,Dn (Dm s k v vs B)]:=by
 have fw:maxLen≤9223372036854775807:=by decide
 have SH:=hw.aa.1;refine JJ.intro Tryz.func104 rfl rfl rfl rfl ?_;unfold Dm;obtain⟨R,hR⟩:∃R,ON k v vs 0 s.aa (Vz B)=R:=⟨_,rfl⟩
 simp only[hR];refine⟨_,al _ _,?_⟩;refine⟨[0,1,2,3,4,10,11,22,23,24],[.ext 0,.ext 1,.own 10,.own 11],fun q S=>∃(i:Nat) (st:OL),i≤s.aa.length∧q=s.aa.length-i∧ON k v vs i (s.aa.drop i) st=R∧
  S=St.mk' [(0,.ptr (.ext 0) 0),(1,nI k),(2,nI v),(3,nI vs),(4,.dF (.ext 1)),(10,.ptr (.own 10) 0),(11,.ptr (.own 11) 0),(22,.p (.sl 22 (s.aa.map aj.enc))),(23,nI s.aa.length),(24,nI i)]
   [(.ext 0,bd s r o),(.ext 1,Dn st.bad),(.own 10,.pure 137 st.last.enc),(.own 11,.pure 174 st.iX.enc)],⟨_,0,Vz B,by omega,rfl,hR,rfl⟩,?_⟩
 rintro q S ⟨i,st,hi,rfl,aw,rfl⟩;refine ab (fun h=>?_) (fun h=>?_)
 ·have h:=of_decide_eq_true h;have aN:i<s.aa.length:=by omega
  have bW:=ao aj.enc s.aa i aN;have sO:=hw.aa.2 _ (av aN);rw[aF aN]at aw;obtain⟨m,hm⟩:∃m,m=s.aa.getD i default:=⟨_,rfl⟩
  rw[←hm]at bW sO aw;have aw:ON k v vs (i+1) (s.aa.drop (i+1)) (if zl k v m=true then st else KO i k v vs 0 ((m.Cells.getD k default).ai.getD v default).ak st)=R:=aw;refine⟨_,bW,?_⟩;refine⟨rfl,?_⟩;refine⟨_,al _ _,?_⟩;refine⟨_,fun h=>ao aI.enc m.Cells k (by have:=of_decide_eq_false h;omega),?_⟩;refine⟨_,fun _=>al _ _,?_⟩;refine ab (fun h=>?_) (fun h=>?_)
  ·have h:zl k v m=true:=h;rw[if_pos h]at aw;refine⟨_,wrap_i64 (by omega) (by omega),?_⟩;exact⟨s.aa.length-(i+1),by omega,i+1,st,by omega,rfl,aw,rfl⟩
  ·have h:zl k v m=false:=h;rw[if_neg (by rw[h];simp)]at aw;unfold zl at h;rw[aX,Bool.or_eq_false_iff,decide_eq_false_iff_not,decide_eq_false_iff_not]at h;have hk:k<m.Cells.length:=by omega
   have hv:v<(m.Cells.getD k default).ai.length:=by omega
   have fF:=ao aI.enc m.Cells k hk;have gL:=ao ax.enc _ v hv;have wV:=(sO.Cells.2 _ (av hk)).ai.2 _ (av hv);obtain⟨x,hx⟩:∃x,x=(m.Cells.getD k default).ai.getD v default:=⟨_,rfl⟩
   rw[←hx]at gL aw wV;have Wb:=wV.ak.1;obtain⟨Z,hZ⟩:∃Z,KO i k v vs 0 x.ak st=Z:=⟨_,rfl⟩
   rw[hZ]at aw;refine⟨_,fF,?_⟩;refine⟨_,gL,?_⟩;refine⟨_,al _ _,?_⟩;refine⟨[0,1,2,3,4,10,11,12,22,23,24,54,55,56],[.ext 0,.ext 1,.own 10,.own 11],fun q S=>∃(n:Nat) (st:OL),n≤x.ak.length∧q=x.ak.length-n∧KO i k v vs n (x.ak.drop n) st=Z∧
    S=St.mk' [(0,.ptr (.ext 0) 0),(1,nI k),(2,nI v),(3,nI vs),(4,.dF (.ext 1)),(10,.ptr (.own 10) 0),(11,.ptr (.own 11) 0),(12,nI i),(22,.p (.sl 22 (s.aa.map aj.enc))),(23,nI s.aa.length),(24,nI i),(54,.p (.sl 13 (x.ak.map aD.enc))),(55,nI x.ak.length),(56,nI n)]
     [(.ext 0,bd s r o),(.ext 1,Dn st.bad),(.own 10,.pure 137 st.last.enc),(.own 11,.pure 174 st.iX.enc)],⟨_,0,st,by omega,rfl,hZ,rfl⟩,?_⟩
   rintro q S ⟨n,st,hn,rfl,zm,rfl⟩;refine ab (fun h=>?_) (fun h=>?_)
   ·have h:=of_decide_eq_true h;have YB:n<x.ak.length:=by omega
    have ow:=ao aD.enc x.ak n YB;rw[aF YB]at zm;obtain⟨e,he⟩:∃e,e=x.ak.getD n default:=⟨_,rfl⟩
    rw[←he]at ow zm;have zm:KO i k v vs (n+1) (x.ak.drop (n+1)) (Hw (kV i k v n) vs e st)=Z:=zm;unfold Hw at zm;refine⟨_,ow,?_⟩;refine⟨rfl,?_⟩;refine⟨_,QB e vs (by omega),?_⟩;refine ab (fun h=>?_) (fun h=>?_)
    ·have h:RU e vs=true:=h;rw[if_pos h]at zm;refine⟨_,wrap_i64 (by omega) (by omega),?_⟩;exact⟨x.ak.length-(n+1),by omega,n+1,st,by omega,rfl,zm,rfl⟩
    ·have h:RU e vs=false:=h;rw[if_neg (by rw[h];simp)]at zm;have vR:vs<e.bz.length:=by
      unfold RU at h;rw[Bool.or_eq_false_iff,decide_eq_false_iff_not]at h;omega
     obtain⟨y,hy⟩:∃y,y=e.bz.getD vs default:=⟨_,rfl⟩
     have YC:=ao aU.enc e.bz vs vR;rw[←hy]at YC zm;refine⟨[.no,.no,.no,.no,.no,.no,.ld (.own 15),.no,.no,.ro,.no,.no,.st (.own 16)],rfl,?_⟩;refine⟨rfl,?_⟩;refine⟨rfl,?_⟩;refine⟨rfl,?_⟩;refine⟨rfl,?_⟩;refine⟨rfl,?_⟩;refine⟨rfl,?_⟩;refine⟨rfl,?_⟩;refine⟨rfl,?_⟩;refine⟨rfl,?_⟩;refine⟨_,YC,?_⟩;refine⟨rfl,?_⟩;refine⟨rfl,?_⟩;refine⟨rfl,?_⟩;refine⟨rfl,?_⟩;refine⟨rfl,?_⟩;refine⟨rfl,?_⟩;refine⟨rfl,?_⟩;refine ab (fun c1=>?_) (fun c1=>?_)
     ·have q1:Vy st y=qq st.iX st.bad:=if_pos c1;rw[q1]at zm;refine⟨me rG st.iX st.bad,_,vJ rG st.iX st.bad,?_⟩;refine ab (fun c2=>?_) (fun c2=>?_)
      ·have q2:∀B,OM (kV i k v n) st y B=qq (kV i k v n) B:=fun B=>if_pos c2
       rw[q2]at zm;refine⟨me rG (kV i k v n) (qq st.iX st.bad),_,vJ rG (kV i k v n) (qq st.iX st.bad),?_⟩;refine⟨[.no,.ld (.own 16),.st (.own 10)],rfl,?_⟩;refine⟨rfl,?_⟩;refine⟨rfl,?_⟩;refine⟨rfl,?_⟩;refine⟨rfl,?_⟩;refine⟨rfl,?_⟩;refine⟨rfl,?_⟩;refine⟨_,wrap_i64 (by omega) (by omega),?_⟩;exact⟨x.ak.length-(n+1),by omega,n+1,_,by omega,rfl,zm,rfl⟩
      ·have q2:∀B,OM (kV i k v n) st y B=B:=fun B=>if_neg (by rw[show(bif(bif(y.Text== [])then(y.kG==2)else false)then(st.last.kG !=2)else false)=false from c2];simp)
       rw[q2]at zm;refine⟨[.no,.ld (.own 16),.st (.own 10)],rfl,?_⟩;refine⟨rfl,?_⟩;refine⟨rfl,?_⟩;refine⟨rfl,?_⟩;refine⟨rfl,?_⟩;refine⟨rfl,?_⟩;refine⟨rfl,?_⟩;refine⟨_,wrap_i64 (by omega) (by omega),?_⟩;exact⟨x.ak.length-(n+1),by omega,n+1,_,by omega,rfl,zm,rfl⟩
     ·have q1:Vy st y=st.bad:=if_neg (by rw[show(bif(st.last.kG==1)then(y.Text== [])else false)=false from c1];simp);rw[q1]at zm;refine ab (fun c2=>?_) (fun c2=>?_)
      ·have q2:∀B,OM (kV i k v n) st y B=qq (kV i k v n) B:=fun B=>if_pos c2
       rw[q2]at zm;refine⟨me rG (kV i k v n) st.bad,_,vJ rG (kV i k v n) st.bad,?_⟩;refine⟨[.no,.ld (.own 16),.st (.own 10)],rfl,?_⟩;refine⟨rfl,?_⟩;refine⟨rfl,?_⟩;refine⟨rfl,?_⟩;refine⟨rfl,?_⟩;refine⟨rfl,?_⟩;refine⟨rfl,?_⟩;refine⟨_,wrap_i64 (by omega) (by omega),?_⟩;exact⟨x.ak.length-(n+1),by omega,n+1,_,by omega,rfl,zm,rfl⟩
      ·have q2:∀B,OM (kV i k v n) st y B=B:=fun B=>if_neg (by rw[show(bif(bif(y.Text== [])then(y.kG==2)else false)then(st.last.kG !=2)else false)=false from c2];simp)
       rw[q2]at zm;refine⟨[.no,.ld (.own 16),.st (.own 10)],rfl,?_⟩;refine⟨rfl,?_⟩;refine⟨rfl,?_⟩;refine⟨rfl,?_⟩;refine⟨rfl,?_⟩;refine⟨rfl,?_⟩;refine⟨rfl,?_⟩;refine⟨_,wrap_i64 (by omega) (by omega),?_⟩;exact⟨x.ak.length-(n+1),by omega,n+1,_,by omega,rfl,zm,rfl⟩
   ·have h:=of_decide_eq_false h;rw[List.drop_eq_nil_of_le (by omega)]at zm;have zm:st=Z:=zm;subst zm;refine⟨_,wrap_i64 (by omega) (by omega),?_⟩;exact⟨s.aa.length-(i+1),by omega,i+1,st,by omega,rfl,aw,rfl⟩
 ·have h:=of_decide_eq_false h;rw[List.drop_eq_nil_of_le (by omega)]at aw;have aw:st=R:=aw;subst aw;refine ab (fun h=>?_) (fun h=>?_)
  ·rw[if_pos (show(st.last.kG==1)=true from h)];refine⟨me rG st.iX st.bad,_,vJ rG st.iX st.bad,?_⟩;exact⟨rfl,rfl⟩
  ·rw[if_neg (by rw[show(st.last.kG==1)=false from h];simp)];exact⟨rfl,rfl⟩
theorem RW(B:List bt)(p:bt)(e:aD):JJ 105 [.agg p.enc,.agg e.enc,.ptr (.ext 0) 0] [.mix 190 [.dF (.ext 1)],Dn B] (nB (decide (p∈B))) [.mix 190 [.dF (.ext 1)],Dn B]:=by
 refine JJ.intro Tryz.func105 rfl rfl rfl rfl ?_;obtain⟨b,h1⟩:=OK rG p B;refine⟨me rG p B,b,_,h1,?_⟩;exact⟨rfl,rfl⟩
def Wu(s:ae)(k v:Nat):Nat→Nat→List bt→List bt
 | 0,_,B=>B
 | n+1,vs,B=>Wu s k v n (vs+1) (Dm s k v vs B)
def Wv(s:ae)(k:Nat):Nat→Nat→List bt→List bt
 | 0,_,B=>B
 | n+1,v,B=>Wv s k n (v+1) (Wu s k v 4 0 B)
def Ww(s:ae):Nat→Nat→List bt→List bt
 | 0,_,B=>B
 | n+1,k,B=>Ww s n (k+1) (Wv s k 2 0 B)
def OO(s:ae):List bt:=Ww s s.bG.toNat 0 []
abbrev v11(s:ae)(r:Int)(l:List ah):List ah:=zI (fun i k v n=>decide (kV i k v n∈OO s)) r 0 s.aa l
set_option maxHeartbeats 4000000 in
theorem VA(s:ae)(r:Int)(l:List ah)(N:Nat)(hN:s.bG=N)(hN2:N≤1000)(hw:s.wf)(hF:rl s)(hp:s.ay.length≤1000)(hl:l.length≤100000000):
  JJ 55 [.ptr (.ext 0) 0] [bd s r l] (.dE []) [bd s r (v11 s r l)]:=by
 have j5:(1000:Nat)≤maxLen:=by decide
 have YD:=vy s (show s.ay.length≤maxLen by omega);rw[hN]at YD;have WQ:OO s=Ww s N 0 []:=by unfold OO;rw[hN];rfl
 unfold v11;rw[WQ];obtain⟨R,hR⟩:∃R,Ww s N 0 []=R:=⟨_,rfl⟩
 rw[hR];refine JJ.intro Tryz.func55 rfl rfl rfl rfl ?_;refine⟨_,YD,?_⟩;refine⟨[0,2,13,14],[.ext 0,.own 2,.own 7],fun q S=>∃(k:Nat) (B:List bt),k≤N∧q=N-k∧Ww s (N-k) k B=R∧
  S=St.mk' [(0,.ptr (.ext 0) 0),(2,.ptr (.own 2) 0),(13,nI N),(14,nI k)] [(.ext 0,bd s r l),(.own 2,.mix 190 [.dF (.own 7)]),(.own 7,Dn B)],⟨_,0,[],by omega,rfl,hR,rfl⟩,?_⟩
 rintro q S ⟨k,B,hk,rfl,aw,rfl⟩;refine ab (fun h=>?_) (fun h=>?_)
 ·have h:=of_decide_eq_true h;have aN:k<N:=by omega
  obtain⟨n,hn⟩:∃n,N-k=n+1:=⟨N-k-1,by omega⟩
  rw[hn]at aw;have aw:Ww s n (k+1) (Wv s k 2 0 B)=R:=aw;rw[show n=N-(k+1)by omega]at aw;obtain⟨Z,hZ⟩:∃Z,Wv s k 2 0 B=Z:=⟨_,rfl⟩
  rw[hZ]at aw;refine⟨[0,2,4,13,14,17],[.ext 0,.own 2,.own 7],fun q S=>∃(v:Nat) (B:List bt),v≤2∧q=2-v∧Wv s k (2-v) v B=Z∧
   S=St.mk' [(0,.ptr (.ext 0) 0),(2,.ptr (.own 2) 0),(4,nI k),(13,nI N),(14,nI k),(17,nI v)] [(.ext 0,bd s r l),(.own 2,.mix 190 [.dF (.own 7)]),(.own 7,Dn B)],⟨_,0,B,by omega,rfl,hZ,rfl⟩,?_⟩
  rintro q S ⟨v,B,hv,rfl,jZ,rfl⟩;refine ab (fun h=>?_) (fun h=>?_)
  ·have h:=of_decide_eq_true h;have Rq:v<2:=by omega
   obtain⟨n,hn⟩:∃n,2-v=n+1:=⟨2-v-1,by omega⟩
   rw[hn]at jZ;have jZ:Wv s k n (v+1) (Wu s k v 4 0 B)=Z:=jZ;rw[show n=2-(v+1)by omega]at jZ;obtain⟨Y,hY⟩:∃Y,Wu s k v 4 0 B=Y:=⟨_,rfl⟩
   rw[hY]at jZ;refine⟨[0,2,4,5,13,14,17,20],[.ext 0,.own 2,.own 7],fun q S=>∃(u:Nat) (B:List bt),u≤4∧q=4-u∧Wu s k v (4-u) u B=Y∧
    S=St.mk' [(0,.ptr (.ext 0) 0),(2,.ptr (.own 2) 0),(4,nI k),(5,nI v),(13,nI N),(14,nI k),(17,nI v),(20,nI u)] [(.ext 0,bd s r l),(.own 2,.mix 190 [.dF (.own 7)]),(.own 7,Dn B)],⟨_,0,B,by omega,rfl,hY,rfl⟩,?_⟩
   rintro q S ⟨u,B,hu,rfl,SR,rfl⟩;refine ab (fun h=>?_) (fun h=>?_)
   ·have h:=of_decide_eq_true h;have afx:u<4:=by omega
    obtain⟨n,hn⟩:∃n,4-u=n+1:=⟨4-u-1,by omega⟩
    rw[hn]at SR;have SR:Wu s k v n (u+1) (Dm s k v u B)=Y:=SR;rw[show n=4-(u+1)by omega]at SR;refine⟨_,_,RV s r l k v u B hw,rfl,?_⟩;refine⟨_,wrap_i64 (by omega) (by omega),?_⟩;exact⟨_,by omega,u+1,_,by omega,rfl,SR,rfl⟩
   ·have h:=of_decide_eq_false h;obtain rfl:u=4:=by omega
    have SR:B=Y:=SR;subst SR;refine⟨_,wrap_i64 (by omega) (by omega),?_⟩;exact⟨2-(v+1),by omega,v+1,B,by omega,rfl,jZ,rfl⟩
  ·have h:=of_decide_eq_false h;obtain rfl:v=2:=by omega
   have jZ:B=Z:=jZ;subst jZ;refine⟨_,wrap_i64 (by omega) (by omega),?_⟩;exact⟨N-(k+1),by omega,k+1,B,by omega,rfl,aw,rfl⟩
 ·have h:=of_decide_eq_false h;obtain rfl:k=N:=by omega
  rw[Nat.sub_self]at aw;have aw:B=R:=aw;subst aw;refine⟨_,_,Yq s r l hF hl (fun i k v n hA o=>RW B _ _),rfl,?_⟩;exact⟨rfl,rfl⟩
open Go.Proofs
def YE(s:ae)(id:cP)(seen:List cP):Bool:=bif(bif !(yU id)then true else decide (id∈seen))then true else decide (id.Number>vz id.Site s.fB)
def VB(s:ae)(r:Int):List cP→List cP→List ah→List ah
 | [],_,l=>l
 | id::rest,seen,l=>VB s r rest (qq id seen) (gE (YE s id seen) r id l)
def OP(L:List cP)(w:Bool)(i:Nat)(x:cP):Bool:=bif(bif w then true else !(yU x))then true else(bif decide ((i:Int)>0)then decide (x.Site≤(L.getD (i-1) default).Site)else false)
def YF(L:List cP)(w:Bool):Nat→List cP→Bool
 | _,[]=>w
 | i,x::r=>YF L (OP L w i x) (i+1) r
def ae.ids(s:ae):List cP:=(bZ s).map eY.id
abbrev v2(s:ae)(r:Int)(l:List ah):List ah:=gE (YF s.fB false 0 s.fB) r oZ (VB s r s.ids [] l)
theorem Dp(s:ae)(r:Int):∀(ids seen:List cP) (l:List ah),(VB s r ids seen l).length≤l.length+ids.length
 | [],_,l=>Nat.le_refl _
 | id::rest,seen,l=>by
  refine Nat.le_trans (Dp s r rest _ _) ?_;have:=cS (YE s id seen) r id l;rw[List.length_cons];omega
abbrev abP(B:List cP):er:= .mp false (ur cP.enc B)
set_option maxHeartbeats 4000000 in
theorem VD(s:ae)(r:Int)(l:List ah)(hw:s.wf)(iH:s.ay.length≤1000)(kl:∀p∈s.ay,p.aL.length≤1000)(GR:(bZ s).length≤1000000)(hl:l.length≤90000000):
  JJ 46 [.ptr (.ext 0) 0] [bd s r l] (.dE []) [bd s r (v2 s r l)]:=by
 have fw:maxLen≤9223372036854775807:=by decide
 have j5:(1000000:Nat)≤maxLen:=by decide
 have yo:=hw.fB.1;have h80:=Vn s hw iH kl (by omega);have abR:(bZ s).map (fun it=>it.id.enc)=s.ids.map cP.enc:=by unfold ae.ids;rw[List.map_map];rfl
 have Sd:s.ids.length≤1000000:=by unfold ae.ids;rw[List.length_map];exact GR
 have YG:=Dp s r s.ids [] l;rw[abR]at h80;unfold v2;obtain⟨ids,hI⟩:∃ids,s.ids=ids:=⟨_,rfl⟩
 rw[hI]at h80 Sd YG ⊢;obtain⟨R,hR⟩:∃R,VB s r ids [] l=R:=⟨_,rfl⟩
 rw[hR]at YG ⊢;obtain⟨W,hW⟩:∃W,YF s.fB false 0 s.fB=W:=⟨_,rfl⟩
 rw[hW];refine JJ.intro Tryz.func46 rfl rfl rfl rfl ?_;refine⟨_,h80,?_⟩;refine⟨_,al _ _,?_⟩;refine⟨[0,2,13,14,15],[.ext 0,.own 8],fun q S=>∃(i:Nat) (B:List cP) (o:List ah),i≤ids.length∧q=ids.length-i∧o.length≤l.length+i∧VB s r (ids.drop i) B o=R∧
  S=St.mk' [(0,.ptr (.ext 0) 0),(2,.dF (.own 8)),(13,.own 2 (ids.map cP.enc)),(14,nI ids.length),(15,nI i)] [(.ext 0,bd s r o),(.own 8,abP B)],⟨_,0,[],l,by omega,rfl,by omega,hR,rfl⟩,?_⟩
 rintro q S ⟨i,B,o,hi,rfl,iz,aw,rfl⟩;refine ab (fun h=>?_) (fun h=>?_)
 ·have h:=of_decide_eq_true h;have aN:i<ids.length:=by omega
  have bW:=ao cP.enc ids i aN;rw[aF aN]at aw;obtain⟨x,hx⟩:∃x,x=ids.getD i default:=⟨_,rfl⟩
  rw[←hx]at bW aw;have aw:VB s r (ids.drop (i+1)) (qq x B) (gE (YE s x B) r x o)=R:=aw;have Ei:=cS (YE s x B) r x o;obtain⟨b,h1⟩:=OK zh x B;refine⟨_,bW,?_⟩;refine⟨rfl,?_⟩;refine⟨rfl,?_⟩;refine⟨_,Nz x,?_⟩;refine⟨_,fun _=>⟨me zh x B,b,h1⟩,?_⟩;refine⟨_,fun _=>Un s x.Site yo,?_⟩;refine⟨_,_,ix s r o _ x (by omega),rfl,?_⟩;refine⟨me zh x B,_,vJ zh x B,?_⟩;refine⟨_,wrap_i64 (by omega) (by omega),?_⟩;exact⟨ids.length-(i+1),by omega,i+1,qq x B,_,by omega,rfl,by omega,aw,rfl⟩
 ·have h:=of_decide_eq_false h;obtain rfl:i=ids.length:=by omega
  rw[List.drop_length]at aw;have aw:o=R:=aw;subst aw;refine⟨_,al _ _,?_⟩;refine⟨[0,5,49,50,51],[.ext 0],fun q S=>∃(j:Nat) (w:Bool),j≤s.fB.length∧q=s.fB.length-j∧YF s.fB w j (s.fB.drop j)=W∧
   S=St.mk' [(0,.ptr (.ext 0) 0),(5,nB w),(49,.p (.sl 2 (s.fB.map cP.enc))),(50,nI s.fB.length),(51,nI j)] [(.ext 0,bd s r o)],⟨_,0,false,by omega,rfl,hW,rfl⟩,?_⟩
  rintro q S ⟨j,w,hj,rfl,fh,rfl⟩;refine ab (fun h=>?_) (fun h=>?_)
  ·have h:=of_decide_eq_true h;have aN:j<s.fB.length:=by omega
   have bW:=ao cP.enc s.fB j aN;rw[aF aN]at fh;obtain⟨x,hx⟩:∃x,x=s.fB.getD j default:=⟨_,rfl⟩
   rw[←hx]at bW fh;have fh:YF s.fB (OP s.fB w j x) (j+1) (s.fB.drop (j+1))=W:=fh;refine⟨_,bW,?_⟩;refine⟨rfl,?_⟩;refine⟨rfl,?_⟩;refine⟨_,fun _=>Nz x,?_⟩;refine⟨(j:Int)-1,fun _ _=>wrap_i64 (by omega) (by omega),?_⟩;refine⟨(s.fB.getD (j-1) default).enc,fun h1 h2=>?_,?_⟩
   ·have hj0:(j:Int)>0:=of_decide_eq_true h2;show 0≤(j:Int)-1∧(s.fB.map cP.enc)[((j:Int)-1).toNat]? =some _;rw[show(j:Int)-1=((j-1:Nat):Int)by omega];exact ao cP.enc s.fB (j-1) (by omega)
   refine⟨_,wrap_i64 (by omega) (by omega),?_⟩;exact⟨s.fB.length-(j+1),by omega,j+1,_,by omega,rfl,fh,rfl⟩
  ·have h:=of_decide_eq_false h;obtain rfl:j=s.fB.length:=by omega
   rw[List.drop_length]at fh;have fh:w=W:=fh;subst fh;refine⟨_,_,ix s r o _ oZ (by omega),rfl,?_⟩;exact⟨rfl,rfl⟩
open Go.Proofs
def Wx(p:cf):Bool:=bif(bif !(zd p.Name)then true else !(decide (1≤(p.aL.length:Int))&&decide ((p.aL.length:Int)≤4)))then true else((if p.aT.ok then(0:Int)else 2)!=0)
def RX(r:Int):List cf→List ah→List ah
 | [],l=>l
 | p::rest,l=>RX r rest (gE (Wx p) r p.ID l)
def VE(w:Bool):List ax→Bool
 | []=>w
 | v::r=>VE (bif(bif w then true else decide ((v.ak.length:Int)>128))then true else decide ((v.eH.length:Int)>16)) r
def ZP(w:Bool)(c:aI):Bool:=bif(bif w then true else decide ((c.bm.length:Int)>64))then true else decide ((c.ai.length:Int)>2)
def RY(w:Bool):List aI→Bool
 | []=>w
 | c::r=>RY (VE (ZP w c) c.ai) r
def Wy(m:aj):Bool:=RY (bif !(zd m.jE)then true else decide ((m.iq.length:Int)>64)) m.Cells
def VF(r:Int):List aj→List ah→List ah
 | [],l=>l
 | m::rest,l=>VF r rest (gE (Wy m) r m.ID l)
def lsW(s:ae):Bool:=
 bif(bif(bif(bif !(zd s.yu)then true else !(decide (1≤(s.ay.length:Int))&&decide ((s.ay.length:Int)≤32)))then true else !(decide (1≤(s.aa.length:Int))&&decide ((s.aa.length:Int)≤1024)))then true else decide ((s.au.length:Int)>4096))then true else decide ((s.fB.length:Int)>100)
theorem Dq(r:Int):∀(ps:List cf) (l:List ah),(RX r ps l).length≤l.length+ps.length
 | [],l=>Nat.le_refl _
 | p::rest,l=>by
  refine Nat.le_trans (Dq r rest _) ?_;have:=cS (Wx p) r p.ID l;rw[List.length_cons];omega
theorem Dr(r:Int):∀(ms:List aj) (l:List ah),(VF r ms l).length≤l.length+ms.length
 | [],l=>Nat.le_refl _
 | m::rest,l=>by
  refine Nat.le_trans (Dr r rest _) ?_;have:=cS (Wy m) r m.ID l;rw[List.length_cons];omega
abbrev v1(s:ae)(r:Int)(l:List ah):List ah:=gE (lsW s) r oZ (VF r s.aa (RX r s.ay l))
abbrev OQ(s:ae)(r:Int)(o:List ah)(i:Nat)(m:aj)(k:Nat)(w:Bool):St:=
 St.mk' [(0,.ptr (.ext 0) 0),(5,.ptr (.own 5) 0),(6,nB w),(47,.p (.sl 22 (s.aa.map aj.enc))),(48,nI s.aa.length),(49,nI i),(64,.p (.sl 2 (m.Cells.map aI.enc))),(65,nI m.Cells.length),(66,nI k)] [(.ext 0,bd s r o),(.own 5,.pure 82 m.enc)]
set_option maxHeartbeats 2000000 in
theorem YH{Q:Ex→St→Prop}(s:ae)(r:Int)(o:List ah)(i:Nat)(m:aj)(sO:m.wf)(k:Nat)(w:Bool)(hk:k≤m.Cells.length)
  (hX:k=m.Cells.length→ ∀v,Q (.exit 4) ((OQ s r o i m k w).put 67 v))
  (hN:∀S w',k<m.Cells.length→RY w (m.Cells.drop k)=RY w' (m.Cells.drop (k+1))→S.bM [0,5,6,47,48,49,64,65,66] [.ext 0,.own 5]=OQ s r o i m (k+1) w'→Q .normal S):
  oK te JJ (cX Tryz.f45 [1,0,1,0,0,1,1,0,0,1,1,0,1,0,0]) (OQ s r o i m k w) Q:=by
 have fw:maxLen≤9223372036854775807:=by decide
 have dP:=sO.Cells.1;refine ab (fun h=>?_) (fun h=>?_)
 ·have h:=of_decide_eq_true h;have aN:k<m.Cells.length:=by omega
  have bW:=ao aI.enc m.Cells k aN;have pk:=sO.Cells.2 _ (av aN);rw[aF aN]at hN;obtain⟨c,hc⟩:∃c,c=m.Cells.getD k default:=⟨_,rfl⟩
  rw[←hc]at bW pk hN;have GR:=pk.ai.1;have hN:∀S w',k<m.Cells.length→RY (VE (ZP w c) c.ai) (m.Cells.drop (k+1))=RY w' (m.Cells.drop (k+1))→S.bM [0,5,6,47,48,49,64,65,66] [.ext 0,.own 5]=OQ s r o i m (k+1) w'→Q .normal S:=hN
  obtain⟨Y,hY⟩:∃Y,VE (ZP w c) c.ai=Y:=⟨_,rfl⟩
  rw[hY]at hN;refine⟨_,bW,?_⟩;refine⟨rfl,?_⟩;refine⟨_,fun _=>al _ _,?_⟩;refine⟨_,fun _=>al _ _,?_⟩;refine⟨_,al _ _,?_⟩;refine⟨[0,5,6,47,48,49,64,65,66,84,85,86],[.ext 0,.own 5],fun q S=>∃(j:Nat) (w:Bool),j≤c.ai.length∧q=c.ai.length-j∧VE w (c.ai.drop j)=Y∧
   S=St.mk' [(0,.ptr (.ext 0) 0),(5,.ptr (.own 5) 0),(6,nB w),(47,.p (.sl 22 (s.aa.map aj.enc))),(48,nI s.aa.length),(49,nI i),(64,.p (.sl 2 (m.Cells.map aI.enc))),(65,nI m.Cells.length),(66,nI k),(84,.p (.sl 2 (c.ai.map ax.enc))),(85,nI c.ai.length),(86,nI j)] [(.ext 0,bd s r o),(.own 5,.pure 82 m.enc)],⟨_,0,_,by omega,rfl,hY,rfl⟩,?_⟩
  rintro q S ⟨j,w,hj,rfl,fh,rfl⟩;refine ab (fun h=>?_) (fun h=>?_)
  ·have h:=of_decide_eq_true h;have nr:j<c.ai.length:=by omega
   have gL:=ao ax.enc c.ai j nr;rw[aF nr]at fh;obtain⟨v,hv⟩:∃v,v=c.ai.getD j default:=⟨_,rfl⟩
   rw[←hv]at gL fh;have fh:VE (bif(bif w then true else decide ((v.ak.length:Int)>128))then true else decide ((v.eH.length:Int)>16)) (c.ai.drop (j+1))=Y:=fh;refine⟨_,gL,?_⟩;refine⟨rfl,?_⟩;refine⟨_,fun _=>al _ _,?_⟩;refine⟨_,fun _=>al _ _,?_⟩;refine⟨_,wrap_i64 (by omega) (by omega),?_⟩;exact⟨_,by omega,j+1,_,by omega,rfl,fh,rfl⟩
  ·have h:=of_decide_eq_false h;rw[List.drop_eq_nil_of_le (by omega)]at fh;have fh:w=Y:=fh;subst fh;refine⟨_,wrap_i64 (by omega) (by omega),?_⟩;exact hN _ w aN rfl rfl
 ·have h:=of_decide_eq_false h;exact hX (by omega) _
set_option maxHeartbeats 4000000 in
theorem VG(s:ae)(r:Int)(l:List ah)(hw:s.wf)(hp:s.ay.length≤1000)(hm:s.aa.length≤1000000)(hl:l.length≤90000000):
  JJ 45 [.ptr (.ext 0) 0] [bd s r l] (.dE []) [bd s r (v1 s r l)]:=by
 have fw:maxLen≤9223372036854775807:=by decide
 have K5:=Dq r s.ay l;have YI:=Dr r s.aa (RX r s.ay l);refine JJ.intro Tryz.func45 rfl rfl rfl rfl ?_;unfold v1;obtain⟨R,hR⟩:∃R,RX r s.ay l=R:=⟨_,rfl⟩
 rw[hR]at K5 YI ⊢;obtain⟨T,hT⟩:∃T,VF r s.aa R=T:=⟨_,rfl⟩
 rw[hT]at YI ⊢;refine⟨_,al _ _,?_⟩;refine⟨[0,15,16,17],[.ext 0],fun q S=>∃(k:Nat) (o:List ah),k≤s.ay.length∧q=s.ay.length-k∧o.length≤l.length+k∧RX r (s.ay.drop k) o=R∧
  S=St.mk' [(0,.ptr (.ext 0) 0),(15,.p (.sl 6 (s.ay.map cf.enc))),(16,nI s.ay.length),(17,nI k)] [(.ext 0,bd s r o)],⟨_,0,l,by omega,rfl,by omega,hR,rfl⟩,?_⟩
 rintro q S ⟨k,o,hk,rfl,iz,aw,rfl⟩;refine ab (fun h=>?_) (fun h=>?_)
 ·have h:=of_decide_eq_true h;have aN:k<s.ay.length:=by omega
  have bW:=ao cf.enc s.ay k aN;have Mj:=hw.ay.2 _ (av aN);rw[aF aN]at aw;obtain⟨p,Ys⟩:∃p,p=s.ay.getD k default:=⟨_,rfl⟩
  rw[←Ys]at bW aw Mj;have aw:RX r (s.ay.drop (k+1)) (gE (Wx p) r p.ID o)=R:=aw;have Ei:=cS (Wx p) r p.ID o;refine⟨_,bW,?_⟩;refine⟨rfl,?_⟩;refine⟨rfl,?_⟩;refine⟨_,Hn p.Name Mj.Name,?_⟩;refine⟨_,fun _=>al _ _,?_⟩;refine⟨_,fun _=>ir p.aL.length 1 4,?_⟩;refine⟨_,fun _=>Uh p.aT,?_⟩;refine⟨_,_,ix s r o _ p.ID (by omega),rfl,?_⟩;refine⟨_,wrap_i64 (by omega) (by omega),?_⟩;exact⟨s.ay.length-(k+1),by omega,k+1,_,by omega,rfl,by omega,aw,rfl⟩
 ·have h:=of_decide_eq_false h;rw[List.drop_eq_nil_of_le (by omega)]at aw;have aw:o=R:=aw;subst aw;refine⟨_,al _ _,?_⟩;obtain⟨o0,ze⟩:∃o0:List ah,o0=o:=⟨_,rfl⟩
  refine⟨[0,47,48,49],[.ext 0],fun q S=>∃(i:Nat) (o:List ah),i≤s.aa.length∧q=s.aa.length-i∧o.length≤o0.length+i∧VF r (s.aa.drop i) o=T∧
   S=St.mk' [(0,.ptr (.ext 0) 0),(47,.p (.sl 22 (s.aa.map aj.enc))),(48,nI s.aa.length),(49,nI i)] [(.ext 0,bd s r o)],⟨_,0,o,by omega,rfl,by rw[ze];omega,hT,rfl⟩,?_⟩
  subst ze;rintro q S ⟨i,o,hi,rfl,Sy,tp,rfl⟩;refine ab (fun h=>?_) (fun h=>?_)
  ·have h:=of_decide_eq_true h;have VH:i<s.aa.length:=by omega
   have bW:=ao aj.enc s.aa i VH;have sO:=hw.aa.2 _ (av VH);rw[aF VH]at tp;obtain⟨m,wW⟩:∃m,m=s.aa.getD i default:=⟨_,rfl⟩
   rw[←wW]at bW tp sO;have tp:VF r (s.aa.drop (i+1)) (gE (Wy m) r m.ID o)=T:=tp;have Ei:=cS (Wy m) r m.ID o;have dP:=sO.Cells.1;unfold Wy at tp Ei;obtain⟨Z,hZ⟩:∃Z,RY (bif !(zd m.jE)then true else decide ((m.iq.length:Int)>64)) m.Cells=Z:=⟨_,rfl⟩
   rw[hZ]at tp Ei;refine⟨_,bW,?_⟩;refine⟨rfl,?_⟩;refine⟨_,Hn m.jE sO.jE,?_⟩;refine⟨_,fun _=>al _ _,?_⟩;refine⟨_,al _ _,?_⟩;refine⟨[0,5,6,47,48,49,64,65,66],[.ext 0,.own 5],fun q S=>∃(k:Nat) (w:Bool),k≤m.Cells.length∧q=m.Cells.length-k∧RY w (m.Cells.drop k)=Z∧S=OQ s r o i m k w,⟨_,0,_,by omega,rfl,hZ,rfl⟩,?_⟩;rintro q S ⟨k,w,hk,rfl,OF,rfl⟩;refine YH s r o i m sO k w hk (fun pj v=>?_) (fun S w' aN he hS=>?_)
   ·subst pj;rw[List.drop_length]at OF;have OF:w=Z:=OF;subst OF;refine⟨_,_,ix s r o w m.ID (by omega),rfl,?_⟩;refine⟨_,wrap_i64 (by omega) (by omega),?_⟩;exact⟨s.aa.length-(i+1),by omega,i+1,_,by omega,rfl,by omega,tp,rfl⟩
   ·exact⟨m.Cells.length-(k+1),by omega,k+1,w',by omega,rfl,by rw[←he];exact OF,hS⟩
  ·have h:=of_decide_eq_false h;rw[List.drop_eq_nil_of_le (by omega)]at tp;have tp:o=T:=tp;subst tp;refine⟨_,Hn s.yu hw.yu,?_⟩;refine⟨_,fun _=>al _ _,?_⟩;refine⟨_,fun _=>ir s.ay.length 1 32,?_⟩;refine⟨_,fun _=>al _ _,?_⟩;refine⟨_,fun _=>ir s.aa.length 1 1024,?_⟩;refine⟨_,fun _=>al _ _,?_⟩;refine⟨_,fun _=>al _ _,?_⟩;refine⟨_,_,ix s r o _ oZ (by omega),rfl,?_⟩;exact⟨rfl,rfl⟩
open Go.Proofs
structure mm(s:ae)(N:Nat):Prop where
 wf:s.wf
 parts:s.ay.length≤1000
 bG:∀p∈s.ay,p.aL.length≤1000
 kM:s.aa.length≤1000000
 vis:(bZ s).length≤1000000
 span:s.au.length≤100000
 vK:rl s
 OS:KI s
 num:s.bG=N
 YK:N≤1000
noncomputable def uu(s:ae)(i:Nat)(l:List ah):List ah:=
 match i with
 | 0=>v1 s 1 l
 | 1=>v2 s 2 l
 | 2=>v3 s 3 l
 | 3=>v4 s 4 l
 | 4=>v5 s 5 l
 | 5=>v6 s 6 l
 | 6=>v7 s 7 l
 | 7=>v8 s 8 l
 | 8=>v9 s 9 l
 | 9=>v10 s 10 l
 | 10=>v11 s 11 l
 | 11=>Ia s 12 l
 | 12=>Lf s 13 l
 | 13=>Pl s 14 l
 | 14=>XO s 15 l
 | 15=>XP s 16 l
 | 16=>XQ s 17 l
 | _=>l
def dN(i:Nat)(l:List ah):Bool:=
 bif decide ((l.length:Int)>0)then(bif((i:Int)+1==2)then true else(bif decide ((i:Int)+1≥10)then decide ((l.getD 0 default).Xv<10)else false))else false
noncomputable def o4(s:ae):Nat→Nat→List ah→List ah
 | 0,_,l=>l
 | n+1,i,l=>if dN i l=true then l else o4 s n (i+1) (uu s i l)
noncomputable def Ad(s:ae):List ah:=o4 s 17 0 []
theorem I4(w:Nat→Nat→Nat→Nat→Bool)(aO:Int)(i k v:Nat):∀(es:List aD) (n:Nat) (l:List ah),(FJ w aO i k v n es l).length≤l.length+es.length
 | [],n,l=>Nat.le_refl _
 | x::r,n,l=>by
  refine Nat.le_trans (I4 w aO i k v r (n+1) _) ?_;have:=cS (w i k v n) aO x.ID l;rw[List.length_cons];omega
theorem I5(w:Nat→Nat→Nat→Nat→Bool)(aO:Int)(i k:Nat):∀(vs:List ax) (v:Nat) (l:List ah),(∀x∈vs,x.ak.length≤1000)→(wY w aO i k v vs l).length≤l.length+1000*vs.length
 | [],v,l,_=>Nat.le_refl _
 | x::r,v,l,h=>by
  refine Nat.le_trans (I5 w aO i k r (v+1) _ (fun y hy=>h y (by simp[hy]))) ?_;have:=I4 w aO i k v x.ak 0 l;have:=h x (by simp);rw[List.length_cons];omega
theorem I6(w:Nat→Nat→Nat→Nat→Bool)(aO:Int)(i:Nat):∀(cs:List aI) (k:Nat) (l:List ah),(∀c∈cs,c.ai.length≤10∧ ∀x∈c.ai,x.ak.length≤1000)→(FK w aO i k cs l).length≤l.length+10000*cs.length
 | [],k,l,_=>Nat.le_refl _
 | c::r,k,l,h=>by
  refine Nat.le_trans (I6 w aO i r (k+1) _ (fun y hy=>h y (by simp[hy]))) ?_;have:=I5 w aO i k c.ai 0 l (h c (by simp)).2;have:=(h c (by simp)).1;rw[List.length_cons];omega
theorem I7(w:Nat→Nat→Nat→Nat→Bool)(aO:Int):∀(ms:List aj) (i:Nat) (l:List ah),(∀m∈ms,m.Cells.length≤10∧ ∀c∈m.Cells,c.ai.length≤10∧ ∀x∈c.ai,x.ak.length≤1000)→(zI w aO i ms l).length≤l.length+100000*ms.length
 | [],i,l,_=>Nat.le_refl _
 | m::r,i,l,h=>by
  refine Nat.le_trans (I7 w aO r (i+1) _ (fun y hy=>h y (by simp[hy]))) ?_;have:=I6 w aO i m.Cells 0 l (h m (by simp)).2;have:=(h m (by simp)).1;rw[List.length_cons];omega
theorem kN{α:Type}[Inhabited α]{l:List α}{x:α}(h:x∈l):∃i,i<l.length∧x=l.getD i default:=by
 obtain⟨i,hi,e⟩:=List.getElem_of_mem h;exact⟨i,hi,by rw[List.getD_eq_getElem?_getD,List.getElem?_eq_getElem hi,←e];rfl⟩
theorem rl.all{s:ae}(h:rl s):∀m∈s.aa,m.Cells.length≤10∧ ∀c∈m.Cells,c.ai.length≤10∧ ∀x∈c.ai,x.ak.length≤1000:=by
 intro m hm;obtain⟨i,hi,rfl⟩:=kN hm;refine⟨h.cells i hi,fun c hc=>?_⟩;obtain⟨k,hk,rfl⟩:=kN hc;refine⟨h.dI i k hi hk,fun x hx=>?_⟩;obtain⟨v,hv,rfl⟩:=kN hx;exact h.events i k v hi hk hv
theorem uv{s:ae}(h:rl s)(w:Nat→Nat→Nat→Nat→Bool)(r:Int)(l:List ah):(zI w r 0 s.aa l).length≤l.length+1000000:=by
 have:=I7 w r s.aa 0 l h.all;have:=h.ep;omega
theorem I8(L:List (cr×Bool))(r:Int):∀(xs:List br) (i:Nat) (l:List ah),(Vo L r i xs l).length≤l.length+xs.length
 | [],i,l=>Nat.le_refl _
 | x::rest,i,l=>by
  refine Nat.le_trans (I8 L r rest (i+1) _) ?_;have:=cS (L.getD i default).2 r x.ID l;rw[List.length_cons];omega
theorem I9(L:List (cr×Bool))(r:Int):∀(xs:List br) (i:Nat) (l:List ah),(SN L r i xs l).length≤l.length+xs.length
 | [],i,l=>Nat.le_refl _
 | x::rest,i,l=>by
  unfold SN;refine Nat.le_trans (I9 L r rest (i+1) _) ?_;refine Nat.le_trans (Nat.add_le_add_right (cS _ r x.ID l) _) ?_;rw[List.length_cons];omega
theorem Ja(r:Int):∀(ms:List aj) (g:ck) (l:List ah),(RS r g ms l).1.length≤l.length+1
 | [],g,l=>Nat.le_succ _
 | m::rest,g,l=>by
  unfold RS;split
  ·exact cS true r m.ID l
  ·exact Ja r rest _ l
theorem RZ(s:ae)(r:Int)(l:List ah):(Pl s r l).length≤l.length+s.aa.length+2:=by
 unfold Pl;have h1:=ji (fun _ m=>Ab m) r s.aa 0 l;obtain⟨l1,si⟩:∃l1,gS (fun _ m=>Ab m) r 0 s.aa l=l1:=⟨_,rfl⟩
 rw[si]at h1;simp only[si];have h2:=Ja r s.aa Aa l1;split
 ·omega
 ·split
  ·rename_i e;rw[e]at h2;simp only at h2;omega
  ·rename_i l2 g e;rw[e]at h2;simp only at h2;have:=cS (OH g) r (s.aa.getD (s.aa.length-1) default).ID l2;omega
theorem KP{s:ae}{N:Nat}(hI:mm s N)(i:Nat)(l:List ah):(uu s i l).length≤l.length+5000000:=by
 have a1:=hI.kM;have a2:=hI.parts;have a3:=hI.span;have a4:=hI.vis;unfold uu;split
 ·have:=Dq 1 s.ay l;have:=Dr 1 s.aa (RX 1 s.ay l);refine Nat.le_trans (cS _ _ _ _) ?_;omega
 ·have:=Dp s 2 s.ids [] l;have:s.ids.length=(bZ s).length:=by unfold ae.ids;simp
  refine Nat.le_trans (cS _ _ _ _) ?_;omega
 ·exact Nat.le_trans (ji _ _ _ _ _) (by omega)
 ·have:=Da 4 s.ay l hI.bG;exact Nat.le_trans (ji _ _ _ _ _) (by omega)
 ·exact Nat.le_trans (ji _ _ _ _ _) (by omega)
 ·exact Nat.le_trans (ji _ _ _ _ _) (by omega)
 ·exact Nat.le_trans (ji _ _ _ _ _) (by omega)
 ·exact Nat.le_trans (uv hI.vK _ _ _) (by omega)
 ·exact Nat.le_trans (uv hI.vK _ _ _) (by omega)
 ·exact Nat.le_trans (uv hI.vK _ _ _) (by omega)
 ·exact Nat.le_trans (uv hI.vK _ _ _) (by omega)
 ·exact Nat.le_trans (I8 _ _ _ _ _) (by omega)
 ·exact Nat.le_trans (I9 _ _ _ _ _) (by omega)
 ·exact Nat.le_trans (RZ _ _ _) (by omega)
 ·exact Nat.le_trans (ji _ _ _ _ _) (by omega)
 ·exact Nat.le_trans (ji _ _ _ _ _) (by omega)
 ·exact Nat.le_trans (uv hI.vK _ _ _) (by omega)
 ·omega
theorem KQ{i:Nat}{l:List ah}(hi:1≤i)(h1:i<2)(h:dN i l=false):l= []:=by
 obtain rfl:i=1:=by omega
 unfold dN at h;cases l with
 | nil=>rfl
 | cons a r=>
  have:decide (((a::r).length:Int)>0)=true:=decide_eq_true (by rw[List.length_cons];omega);rw[this]at h;cases h
theorem OT{s:ae}{l:List ah}(h:v1 s 1 l= []):0<s.aa.length:=by
 unfold v1 gE at h;split at h
 ·simp at h
 ·rename_i hc;have hc:lsW s=false:=by simpa using hc
  unfold lsW at hc;simp only[aX,Bool.or_eq_false_iff,Bool.not_eq_false',Bool.and_eq_true,decide_eq_true_eq]at hc;omega
theorem qs{o:List ah}(h:decide ((o.length:Int)>0)=true):0<o.length:=by
 have:=of_decide_eq_true h;omega
abbrev YL:List AV:= [.fn 45 [.ptr (.own 9) 0] [],.fn 46 [.ptr (.own 9) 0] [],.fn 47 [.ptr (.own 9) 0] [],.fn 48 [.ptr (.own 9) 0] [],.fn 49 [.ptr (.own 9) 0] [],.fn 50 [.ptr (.own 9) 0] [],.fn 51 [.ptr (.own 9) 0] [],.fn 52 [.ptr (.own 9) 0] [],.fn 53 [.ptr (.own 9) 0] [],.fn 54 [.ptr (.own 9) 0] [],.fn 55 [.ptr (.own 9) 0] [],.fn 56 [.ptr (.own 9) 0] [],.fn 57 [.ptr (.own 9) 0] [],.fn 58 [.ptr (.own 9) 0] [],.fn 59 [.ptr (.own 9) 0] [],.fn 60 [.ptr (.own 9) 0] [],.fn 61 [.ptr (.own 9) 0] []]
abbrev gZ(s:ae)(i:Nat)(o:List ah):St:=St.mk' [(3,.ptr (.own 9) 0),(45,.xz YL),(46,nI 17),(47,nI i)] [(.own 9,bd s i o)]
abbrev J26(s:ae)(N:Nat)(R:List ah)(q:Nat)(S:St):Prop:=∃(i:Nat) (o:List ah),i≤17∧q=17-i∧(2≤i→0<s.aa.length)∧(i=1→o= []→0<s.aa.length)∧o.length≤5000000*i∧o4 s (17-i) i o=R∧S=gZ s i o
set_option maxHeartbeats 1000000 in
theorem YM{Q:Ex→St→Prop}(s:ae)(N:Nat)(hI:mm s N)(o:List ah)(iz:o.length≤80000000)(mP:13≤0→0<s.aa.length)
  (hX:dN 0 o=true→ ∀S,S.get 3= .ptr (.own 9) 0→S.bx (.own 9)=some (bd s 1 o)→S.aJ=false→S.lock=(fun _=>false)→Q (.exit 0) S)
  (hN:∀S,dN 0 o=false→S.bM [3,45,46,47] [.own 9]=gZ s 1 (v1 s 1 o)→Q .normal S):
  nA te JJ YY (cX Tryz.f26 [1,1,1,0,1,0,0]) (gZ s 0 o) Q:=by
 refine ab (fun _=>?_) (fun h=>absurd (of_decide_eq_false h) (by decide));refine⟨⟨by decide,by decide⟩,?_⟩;refine⟨1,(wrap_i64 (by decide) (by decide):IntKind.i64.wrap (0+1:Int)=1),?_⟩;refine Or.inl ?_;refine⟨_,al _ _,?_⟩;refine⟨_,fun h1 h2 h3=>ao ah.enc o 0 (qs h1),?_⟩;refine ab (fun h=>?_) (fun h=>?_)
 ·exact hX h _ rfl rfl rfl rfl
 ·refine⟨_,_,VG s 1 o hI.wf hI.parts hI.kM (by omega),rfl,?_⟩;refine⟨1,(wrap_i64 (by decide) (by decide):IntKind.i64.wrap (0+1:Int)=1),?_⟩;exact hN _ h rfl
set_option maxHeartbeats 1000000 in
theorem YN{Q:Ex→St→Prop}(s:ae)(N:Nat)(hI:mm s N)(o:List ah)(iz:o.length≤80000000)(mP:13≤1→0<s.aa.length)
  (hX:dN 1 o=true→ ∀S,S.get 3= .ptr (.own 9) 0→S.bx (.own 9)=some (bd s 2 o)→S.aJ=false→S.lock=(fun _=>false)→Q (.exit 0) S)
  (hN:∀S,dN 1 o=false→S.bM [3,45,46,47] [.own 9]=gZ s 2 (v2 s 2 o)→Q .normal S):
  nA te JJ YY (cX Tryz.f26 [1,1,1,0,1,0,0]) (gZ s 1 o) Q:=by
 refine ab (fun _=>?_) (fun h=>absurd (of_decide_eq_false h) (by decide));refine⟨⟨by decide,by decide⟩,?_⟩;refine⟨2,(wrap_i64 (by decide) (by decide):IntKind.i64.wrap (1+1:Int)=2),?_⟩;refine Or.inl ?_;refine⟨_,al _ _,?_⟩;refine⟨_,fun h1 h2 h3=>ao ah.enc o 0 (qs h1),?_⟩;refine ab (fun h=>?_) (fun h=>?_)
 ·exact hX h _ rfl rfl rfl rfl
 ·refine⟨_,_,VD s 2 o hI.wf hI.parts hI.bG hI.vis (by omega),rfl,?_⟩;refine⟨2,(wrap_i64 (by decide) (by decide):IntKind.i64.wrap (1+1:Int)=2),?_⟩;exact hN _ h rfl
set_option maxHeartbeats 1000000 in
theorem YO{Q:Ex→St→Prop}(s:ae)(N:Nat)(hI:mm s N)(o:List ah)(iz:o.length≤80000000)(mP:13≤2→0<s.aa.length)
  (hX:dN 2 o=true→ ∀S,S.get 3= .ptr (.own 9) 0→S.bx (.own 9)=some (bd s 3 o)→S.aJ=false→S.lock=(fun _=>false)→Q (.exit 0) S)
  (hN:∀S,dN 2 o=false→S.bM [3,45,46,47] [.own 9]=gZ s 3 (v3 s 3 o)→Q .normal S):
  nA te JJ YY (cX Tryz.f26 [1,1,1,0,1,0,0]) (gZ s 2 o) Q:=by
 refine ab (fun _=>?_) (fun h=>absurd (of_decide_eq_false h) (by decide));refine⟨⟨by decide,by decide⟩,?_⟩;refine⟨3,(wrap_i64 (by decide) (by decide):IntKind.i64.wrap (2+1:Int)=3),?_⟩;refine Or.inl ?_;refine⟨_,al _ _,?_⟩;refine⟨_,fun h1 h2 h3=>ao ah.enc o 0 (qs h1),?_⟩;refine ab (fun h=>?_) (fun h=>?_)
 ·exact hX h _ rfl rfl rfl rfl
 ·refine⟨_,_,UY s 3 o hI.wf hI.parts hI.kM (by omega),rfl,?_⟩;refine⟨3,(wrap_i64 (by decide) (by decide):IntKind.i64.wrap (2+1:Int)=3),?_⟩;exact hN _ h rfl
set_option maxHeartbeats 1000000 in
theorem YP{Q:Ex→St→Prop}(s:ae)(N:Nat)(hI:mm s N)(o:List ah)(iz:o.length≤80000000)(mP:13≤3→0<s.aa.length)
  (hX:dN 3 o=true→ ∀S,S.get 3= .ptr (.own 9) 0→S.bx (.own 9)=some (bd s 4 o)→S.aJ=false→S.lock=(fun _=>false)→Q (.exit 0) S)
  (hN:∀S,dN 3 o=false→S.bM [3,45,46,47] [.own 9]=gZ s 4 (v4 s 4 o)→Q .normal S):
  nA te JJ YY (cX Tryz.f26 [1,1,1,0,1,0,0]) (gZ s 3 o) Q:=by
 refine ab (fun _=>?_) (fun h=>absurd (of_decide_eq_false h) (by decide));refine⟨⟨by decide,by decide⟩,?_⟩;refine⟨4,(wrap_i64 (by decide) (by decide):IntKind.i64.wrap (3+1:Int)=4),?_⟩;refine Or.inl ?_;refine⟨_,al _ _,?_⟩;refine⟨_,fun h1 h2 h3=>ao ah.enc o 0 (qs h1),?_⟩;refine ab (fun h=>?_) (fun h=>?_)
 ·exact hX h _ rfl rfl rfl rfl
 ·refine⟨_,_,U6 s 4 o hI.wf hI.parts hI.bG hI.kM (by omega),rfl,?_⟩;refine⟨4,(wrap_i64 (by decide) (by decide):IntKind.i64.wrap (3+1:Int)=4),?_⟩;exact hN _ h rfl
set_option maxHeartbeats 1000000 in
theorem YQ{Q:Ex→St→Prop}(s:ae)(N:Nat)(hI:mm s N)(o:List ah)(iz:o.length≤80000000)(mP:13≤4→0<s.aa.length)
  (hX:dN 4 o=true→ ∀S,S.get 3= .ptr (.own 9) 0→S.bx (.own 9)=some (bd s 5 o)→S.aJ=false→S.lock=(fun _=>false)→Q (.exit 0) S)
  (hN:∀S,dN 4 o=false→S.bM [3,45,46,47] [.own 9]=gZ s 5 (v5 s 5 o)→Q .normal S):
  nA te JJ YY (cX Tryz.f26 [1,1,1,0,1,0,0]) (gZ s 4 o) Q:=by
 refine ab (fun _=>?_) (fun h=>absurd (of_decide_eq_false h) (by decide));refine⟨⟨by decide,by decide⟩,?_⟩;refine⟨5,(wrap_i64 (by decide) (by decide):IntKind.i64.wrap (4+1:Int)=5),?_⟩;refine Or.inl ?_;refine⟨_,al _ _,?_⟩;refine⟨_,fun h1 h2 h3=>ao ah.enc o 0 (qs h1),?_⟩;refine ab (fun h=>?_) (fun h=>?_)
 ·exact hX h _ rfl rfl rfl rfl
 ·refine⟨_,_,U1 s 5 o hI.wf hI.parts hI.kM (by omega),rfl,?_⟩;refine⟨5,(wrap_i64 (by decide) (by decide):IntKind.i64.wrap (4+1:Int)=5),?_⟩;exact hN _ h rfl
set_option maxHeartbeats 1000000 in
theorem YR{Q:Ex→St→Prop}(s:ae)(N:Nat)(hI:mm s N)(o:List ah)(iz:o.length≤80000000)(mP:13≤5→0<s.aa.length)
  (hX:dN 5 o=true→ ∀S,S.get 3= .ptr (.own 9) 0→S.bx (.own 9)=some (bd s 6 o)→S.aJ=false→S.lock=(fun _=>false)→Q (.exit 0) S)
  (hN:∀S,dN 5 o=false→S.bM [3,45,46,47] [.own 9]=gZ s 6 (v6 s 6 o)→Q .normal S):
  nA te JJ YY (cX Tryz.f26 [1,1,1,0,1,0,0]) (gZ s 5 o) Q:=by
 refine ab (fun _=>?_) (fun h=>absurd (of_decide_eq_false h) (by decide));refine⟨⟨by decide,by decide⟩,?_⟩;refine⟨6,(wrap_i64 (by decide) (by decide):IntKind.i64.wrap (5+1:Int)=6),?_⟩;refine Or.inl ?_;refine⟨_,al _ _,?_⟩;refine⟨_,fun h1 h2 h3=>ao ah.enc o 0 (qs h1),?_⟩;refine ab (fun h=>?_) (fun h=>?_)
 ·exact hX h _ rfl rfl rfl rfl
 ·refine⟨_,_,U9 s 6 o hI.wf hI.kM (by omega),rfl,?_⟩;refine⟨6,(wrap_i64 (by decide) (by decide):IntKind.i64.wrap (5+1:Int)=6),?_⟩;exact hN _ h rfl
set_option maxHeartbeats 1000000 in
theorem YS{Q:Ex→St→Prop}(s:ae)(N:Nat)(hI:mm s N)(o:List ah)(iz:o.length≤80000000)(mP:13≤6→0<s.aa.length)
  (hX:dN 6 o=true→ ∀S,S.get 3= .ptr (.own 9) 0→S.bx (.own 9)=some (bd s 7 o)→S.aJ=false→S.lock=(fun _=>false)→Q (.exit 0) S)
  (hN:∀S,dN 6 o=false→S.bM [3,45,46,47] [.own 9]=gZ s 7 (v7 s 7 o)→Q .normal S):
  nA te JJ YY (cX Tryz.f26 [1,1,1,0,1,0,0]) (gZ s 6 o) Q:=by
 refine ab (fun _=>?_) (fun h=>absurd (of_decide_eq_false h) (by decide));refine⟨⟨by decide,by decide⟩,?_⟩;refine⟨7,(wrap_i64 (by decide) (by decide):IntKind.i64.wrap (6+1:Int)=7),?_⟩;refine Or.inl ?_;refine⟨_,al _ _,?_⟩;refine⟨_,fun h1 h2 h3=>ao ah.enc o 0 (qs h1),?_⟩;refine ab (fun h=>?_) (fun h=>?_)
 ·exact hX h _ rfl rfl rfl rfl
 ·refine⟨_,_,Va s 7 o hI.wf hI.kM (by omega),rfl,?_⟩;refine⟨7,(wrap_i64 (by decide) (by decide):IntKind.i64.wrap (6+1:Int)=7),?_⟩;exact hN _ h rfl
set_option maxHeartbeats 1000000 in
theorem YT{Q:Ex→St→Prop}(s:ae)(N:Nat)(hI:mm s N)(o:List ah)(iz:o.length≤80000000)(mP:13≤7→0<s.aa.length)
  (hX:dN 7 o=true→ ∀S,S.get 3= .ptr (.own 9) 0→S.bx (.own 9)=some (bd s 8 o)→S.aJ=false→S.lock=(fun _=>false)→Q (.exit 0) S)
  (hN:∀S,dN 7 o=false→S.bM [3,45,46,47] [.own 9]=gZ s 8 (v8 s 8 o)→Q .normal S):
  nA te JJ YY (cX Tryz.f26 [1,1,1,0,1,0,0]) (gZ s 7 o) Q:=by
 refine ab (fun _=>?_) (fun h=>absurd (of_decide_eq_false h) (by decide));refine⟨⟨by decide,by decide⟩,?_⟩;refine⟨8,(wrap_i64 (by decide) (by decide):IntKind.i64.wrap (7+1:Int)=8),?_⟩;refine Or.inl ?_;refine⟨_,al _ _,?_⟩;refine⟨_,fun h1 h2 h3=>ao ah.enc o 0 (qs h1),?_⟩;refine ab (fun h=>?_) (fun h=>?_)
 ·exact hX h _ rfl rfl rfl rfl
 ·refine⟨_,_,Vb s 8 o hI.wf hI.vK (by omega),rfl,?_⟩;refine⟨8,(wrap_i64 (by decide) (by decide):IntKind.i64.wrap (7+1:Int)=8),?_⟩;exact hN _ h rfl
set_option maxHeartbeats 1000000 in
theorem YU{Q:Ex→St→Prop}(s:ae)(N:Nat)(hI:mm s N)(o:List ah)(iz:o.length≤80000000)(mP:13≤8→0<s.aa.length)
  (hX:dN 8 o=true→ ∀S,S.get 3= .ptr (.own 9) 0→S.bx (.own 9)=some (bd s 9 o)→S.aJ=false→S.lock=(fun _=>false)→Q (.exit 0) S)
  (hN:∀S,dN 8 o=false→S.bM [3,45,46,47] [.own 9]=gZ s 9 (v9 s 9 o)→Q .normal S):
  nA te JJ YY (cX Tryz.f26 [1,1,1,0,1,0,0]) (gZ s 8 o) Q:=by
 refine ab (fun _=>?_) (fun h=>absurd (of_decide_eq_false h) (by decide));refine⟨⟨by decide,by decide⟩,?_⟩;refine⟨9,(wrap_i64 (by decide) (by decide):IntKind.i64.wrap (8+1:Int)=9),?_⟩;refine Or.inl ?_;refine⟨_,al _ _,?_⟩;refine⟨_,fun h1 h2 h3=>ao ah.enc o 0 (qs h1),?_⟩;refine ab (fun h=>?_) (fun h=>?_)
 ·exact hX h _ rfl rfl rfl rfl
 ·refine⟨_,_,Vd s 9 o hI.wf hI.vK hI.parts (by omega),rfl,?_⟩;refine⟨9,(wrap_i64 (by decide) (by decide):IntKind.i64.wrap (8+1:Int)=9),?_⟩;exact hN _ h rfl
set_option maxHeartbeats 1000000 in
theorem YV{Q:Ex→St→Prop}(s:ae)(N:Nat)(hI:mm s N)(o:List ah)(iz:o.length≤80000000)(mP:13≤9→0<s.aa.length)
  (hX:dN 9 o=true→ ∀S,S.get 3= .ptr (.own 9) 0→S.bx (.own 9)=some (bd s 10 o)→S.aJ=false→S.lock=(fun _=>false)→Q (.exit 0) S)
  (hN:∀S,dN 9 o=false→S.bM [3,45,46,47] [.own 9]=gZ s 10 (v10 s 10 o)→Q .normal S):
  nA te JJ YY (cX Tryz.f26 [1,1,1,0,1,0,0]) (gZ s 9 o) Q:=by
 refine ab (fun _=>?_) (fun h=>absurd (of_decide_eq_false h) (by decide));refine⟨⟨by decide,by decide⟩,?_⟩;refine⟨10,(wrap_i64 (by decide) (by decide):IntKind.i64.wrap (9+1:Int)=10),?_⟩;refine Or.inl ?_;refine⟨_,al _ _,?_⟩;refine⟨_,fun h1 h2 h3=>ao ah.enc o 0 (qs h1),?_⟩;refine ab (fun h=>?_) (fun h=>?_)
 ·exact hX h _ rfl rfl rfl rfl
 ·refine⟨_,_,Vf s 10 o hI.wf hI.vK hI.OS (by omega),rfl,?_⟩;refine⟨10,(wrap_i64 (by decide) (by decide):IntKind.i64.wrap (9+1:Int)=10),?_⟩;exact hN _ h rfl
set_option maxHeartbeats 1000000 in
theorem VI{Q:Ex→St→Prop}(s:ae)(N:Nat)(hI:mm s N)(o:List ah)(iz:o.length≤80000000)(mP:13≤10→0<s.aa.length)
  (hX:dN 10 o=true→ ∀S,S.get 3= .ptr (.own 9) 0→S.bx (.own 9)=some (bd s 11 o)→S.aJ=false→S.lock=(fun _=>false)→Q (.exit 0) S)
  (hN:∀S,dN 10 o=false→S.bM [3,45,46,47] [.own 9]=gZ s 11 (v11 s 11 o)→Q .normal S):
  nA te JJ YY (cX Tryz.f26 [1,1,1,0,1,0,0]) (gZ s 10 o) Q:=by
 refine ab (fun _=>?_) (fun h=>absurd (of_decide_eq_false h) (by decide));refine⟨⟨by decide,by decide⟩,?_⟩;refine⟨11,(wrap_i64 (by decide) (by decide):IntKind.i64.wrap (10+1:Int)=11),?_⟩;refine Or.inl ?_;refine⟨_,al _ _,?_⟩;refine⟨_,fun h1 h2 h3=>ao ah.enc o 0 (qs h1),?_⟩;refine ab (fun h=>?_) (fun h=>?_)
 ·exact hX h _ rfl rfl rfl rfl
 ·refine⟨_,_,VA s 11 o N hI.num hI.YK hI.wf hI.vK hI.parts (by omega),rfl,?_⟩;refine⟨11,(wrap_i64 (by decide) (by decide):IntKind.i64.wrap (10+1:Int)=11),?_⟩;exact hN _ h rfl
set_option maxHeartbeats 1000000 in
theorem VJ{Q:Ex→St→Prop}(s:ae)(N:Nat)(hI:mm s N)(o:List ah)(iz:o.length≤80000000)(mP:13≤11→0<s.aa.length)
  (hX:dN 11 o=true→ ∀S,S.get 3= .ptr (.own 9) 0→S.bx (.own 9)=some (bd s 12 o)→S.aJ=false→S.lock=(fun _=>false)→Q (.exit 0) S)
  (hN:∀S,dN 11 o=false→S.bM [3,45,46,47] [.own 9]=gZ s 12 (Ia s 12 o)→Q .normal S):
  nA te JJ YY (cX Tryz.f26 [1,1,1,0,1,0,0]) (gZ s 11 o) Q:=by
 refine ab (fun _=>?_) (fun h=>absurd (of_decide_eq_false h) (by decide));refine⟨⟨by decide,by decide⟩,?_⟩;refine⟨12,(wrap_i64 (by decide) (by decide):IntKind.i64.wrap (11+1:Int)=12),?_⟩;refine Or.inl ?_;refine⟨_,al _ _,?_⟩;refine⟨_,fun h1 h2 h3=>ao ah.enc o 0 (qs h1),?_⟩;refine ab (fun h=>?_) (fun h=>?_)
 ·exact hX h _ rfl rfl rfl rfl
 ·refine⟨_,_,Vq s 12 o hI.wf hI.parts hI.bG hI.span (by omega),rfl,?_⟩;refine⟨12,(wrap_i64 (by decide) (by decide):IntKind.i64.wrap (11+1:Int)=12),?_⟩;exact hN _ h rfl
set_option maxHeartbeats 1000000 in
theorem VK{Q:Ex→St→Prop}(s:ae)(N:Nat)(hI:mm s N)(o:List ah)(iz:o.length≤80000000)(mP:13≤12→0<s.aa.length)
  (hX:dN 12 o=true→ ∀S,S.get 3= .ptr (.own 9) 0→S.bx (.own 9)=some (bd s 13 o)→S.aJ=false→S.lock=(fun _=>false)→Q (.exit 0) S)
  (hN:∀S,dN 12 o=false→S.bM [3,45,46,47] [.own 9]=gZ s 13 (Lf s 13 o)→Q .normal S):
  nA te JJ YY (cX Tryz.f26 [1,1,1,0,1,0,0]) (gZ s 12 o) Q:=by
 refine ab (fun _=>?_) (fun h=>absurd (of_decide_eq_false h) (by decide));refine⟨⟨by decide,by decide⟩,?_⟩;refine⟨13,(wrap_i64 (by decide) (by decide):IntKind.i64.wrap (12+1:Int)=13),?_⟩;refine Or.inl ?_;refine⟨_,al _ _,?_⟩;refine⟨_,fun h1 h2 h3=>ao ah.enc o 0 (qs h1),?_⟩;refine ab (fun h=>?_) (fun h=>?_)
 ·exact hX h _ rfl rfl rfl rfl
 ·refine⟨_,_,Vr s 13 o hI.wf hI.parts hI.bG hI.span (by omega),rfl,?_⟩;refine⟨13,(wrap_i64 (by decide) (by decide):IntKind.i64.wrap (12+1:Int)=13),?_⟩;exact hN _ h rfl
set_option maxHeartbeats 1000000 in
theorem VL{Q:Ex→St→Prop}(s:ae)(N:Nat)(hI:mm s N)(o:List ah)(iz:o.length≤80000000)(mP:13≤13→0<s.aa.length)
  (hX:dN 13 o=true→ ∀S,S.get 3= .ptr (.own 9) 0→S.bx (.own 9)=some (bd s 14 o)→S.aJ=false→S.lock=(fun _=>false)→Q (.exit 0) S)
  (hN:∀S,dN 13 o=false→S.bM [3,45,46,47] [.own 9]=gZ s 14 (Pl s 14 o)→Q .normal S):
  nA te JJ YY (cX Tryz.f26 [1,1,1,0,1,0,0]) (gZ s 13 o) Q:=by
 refine ab (fun _=>?_) (fun h=>absurd (of_decide_eq_false h) (by decide));refine⟨⟨by decide,by decide⟩,?_⟩;refine⟨14,(wrap_i64 (by decide) (by decide):IntKind.i64.wrap (13+1:Int)=14),?_⟩;refine Or.inl ?_;refine⟨_,al _ _,?_⟩;refine⟨_,fun h1 h2 h3=>ao ah.enc o 0 (qs h1),?_⟩;refine ab (fun h=>?_) (fun h=>?_)
 ·exact hX h _ rfl rfl rfl rfl
 ·refine⟨_,_,Vv s 14 o hI.wf hI.kM (mP (by omega)) (by omega),rfl,?_⟩;refine⟨14,(wrap_i64 (by decide) (by decide):IntKind.i64.wrap (13+1:Int)=14),?_⟩;exact hN _ h rfl
set_option maxHeartbeats 1000000 in
theorem VM{Q:Ex→St→Prop}(s:ae)(N:Nat)(hI:mm s N)(o:List ah)(iz:o.length≤80000000)(mP:13≤14→0<s.aa.length)
  (hX:dN 14 o=true→ ∀S,S.get 3= .ptr (.own 9) 0→S.bx (.own 9)=some (bd s 15 o)→S.aJ=false→S.lock=(fun _=>false)→Q (.exit 0) S)
  (hN:∀S,dN 14 o=false→S.bM [3,45,46,47] [.own 9]=gZ s 15 (XO s 15 o)→Q .normal S):
  nA te JJ YY (cX Tryz.f26 [1,1,1,0,1,0,0]) (gZ s 14 o) Q:=by
 refine ab (fun _=>?_) (fun h=>absurd (of_decide_eq_false h) (by decide));refine⟨⟨by decide,by decide⟩,?_⟩;refine⟨15,(wrap_i64 (by decide) (by decide):IntKind.i64.wrap (14+1:Int)=15),?_⟩;refine Or.inl ?_;refine⟨_,al _ _,?_⟩;refine⟨_,fun h1 h2 h3=>ao ah.enc o 0 (qs h1),?_⟩;refine ab (fun h=>?_) (fun h=>?_)
 ·exact hX h _ rfl rfl rfl rfl
 ·refine⟨_,_,Vj s 15 o hI.wf hI.kM (by omega),rfl,?_⟩;refine⟨15,(wrap_i64 (by decide) (by decide):IntKind.i64.wrap (14+1:Int)=15),?_⟩;exact hN _ h rfl
set_option maxHeartbeats 1000000 in
theorem VN{Q:Ex→St→Prop}(s:ae)(N:Nat)(hI:mm s N)(o:List ah)(iz:o.length≤80000000)(mP:13≤15→0<s.aa.length)
  (hX:dN 15 o=true→ ∀S,S.get 3= .ptr (.own 9) 0→S.bx (.own 9)=some (bd s 16 o)→S.aJ=false→S.lock=(fun _=>false)→Q (.exit 0) S)
  (hN:∀S,dN 15 o=false→S.bM [3,45,46,47] [.own 9]=gZ s 16 (XP s 16 o)→Q .normal S):
  nA te JJ YY (cX Tryz.f26 [1,1,1,0,1,0,0]) (gZ s 15 o) Q:=by
 refine ab (fun _=>?_) (fun h=>absurd (of_decide_eq_false h) (by decide));refine⟨⟨by decide,by decide⟩,?_⟩;refine⟨16,(wrap_i64 (by decide) (by decide):IntKind.i64.wrap (15+1:Int)=16),?_⟩;refine Or.inl ?_;refine⟨_,al _ _,?_⟩;refine⟨_,fun h1 h2 h3=>ao ah.enc o 0 (qs h1),?_⟩;refine ab (fun h=>?_) (fun h=>?_)
 ·exact hX h _ rfl rfl rfl rfl
 ·refine⟨_,_,Vg s 16 o hI.wf hI.kM (by omega),rfl,?_⟩;refine⟨16,(wrap_i64 (by decide) (by decide):IntKind.i64.wrap (15+1:Int)=16),?_⟩;exact hN _ h rfl
set_option maxHeartbeats 1000000 in
theorem VO{Q:Ex→St→Prop}(s:ae)(N:Nat)(hI:mm s N)(o:List ah)(iz:o.length≤80000000)(mP:13≤16→0<s.aa.length)
  (hX:dN 16 o=true→ ∀S,S.get 3= .ptr (.own 9) 0→S.bx (.own 9)=some (bd s 17 o)→S.aJ=false→S.lock=(fun _=>false)→Q (.exit 0) S)
  (hN:∀S,dN 16 o=false→S.bM [3,45,46,47] [.own 9]=gZ s 17 (XQ s 17 o)→Q .normal S):
  nA te JJ YY (cX Tryz.f26 [1,1,1,0,1,0,0]) (gZ s 16 o) Q:=by
 refine ab (fun _=>?_) (fun h=>absurd (of_decide_eq_false h) (by decide));refine⟨⟨by decide,by decide⟩,?_⟩;refine⟨17,(wrap_i64 (by decide) (by decide):IntKind.i64.wrap (16+1:Int)=17),?_⟩;refine Or.inl ?_;refine⟨_,al _ _,?_⟩;refine⟨_,fun h1 h2 h3=>ao ah.enc o 0 (qs h1),?_⟩;refine ab (fun h=>?_) (fun h=>?_)
 ·exact hX h _ rfl rfl rfl rfl
 ·refine⟨_,_,Vl s 17 o hI.wf hI.vK hI.OS (by omega),rfl,?_⟩;refine⟨17,(wrap_i64 (by decide) (by decide):IntKind.i64.wrap (16+1:Int)=17),?_⟩;exact hN _ h rfl
open Go.Proofs
theorem St.kO{S:St}{d:Nat}{v:AV}{l:Loc}{b:er}(h1:S.get d=v)(hb:S.bx l=some b)(h2:S.lock=(fun _=>false))(h3:S.aJ=false):
  S=⟨fun t=>bif Nat.beq d t then v else S.get t,fun m=>bif Loc.mI l m then some b else S.bx m,fun _=>false,false⟩:=by
 obtain⟨g,x,k,lb⟩:=S;simp only at h1 hb h2 h3;subst h2 h3;congr
 ·funext t;cases he:Nat.beq d t with
  | true=>rw[←beq_true.1 he];exact h1
  | false=>rfl
 ·funext m;cases he:Loc.mI l m with
  | true=>
   have:l=m:=by
    cases l<;>cases m<;>simp[Loc.mI]at he<;>(subst he;rfl)
   rw[←this];exact hb
  | false=>rfl
theorem da{s:ae}{n i:Nat}{o:List ah}(h:dN i o=true):o4 s n i o=o:=by
 cases n with
 | zero=>rfl
 | succ n=>
  unfold o4;rw[if_pos h]
theorem OU{s:ae}{i:Nat}{o:List ah}(hi:i<17)(h:dN i o=false):o4 s (17-i) i o=o4 s (17-(i+1)) (i+1) (uu s i o):=by
 obtain⟨n,hn⟩:∃n,17-i=n+1:=⟨17-i-1,by omega⟩
 rw[hn,show 17-(i+1)=n by omega]
 conv=>lhs;unfold o4
 rw[if_neg (by rw[h];simp)]
theorem eM{s:ae}{N:Nat}(hI:mm s N){R:List ah}{i:Nat}{o:List ah}(hi:i<17)(iH:2≤i→0<s.aa.length)(kl:i=1→o= []→0<s.aa.length)(iz:o.length≤5000000*i)(aw:o4 s (17-i) i o=R)
  (hs:dN i o=false) {S:St} (hS:S=gZ s (i+1) (uu s i o)):∃m,m<17-i∧J26 s N R m S:=by
 have:=KP hI i o;refine⟨17-(i+1),by omega,i+1,_,by omega,rfl,fun h=>?_,fun h h2=>?_,by omega,by rw[←OU hi hs];exact aw,hS⟩
 ·by_cases h1:i=1
  ·exact kl h1 (KQ (by omega) (by omega) hs)
  ·exact iH (by omega)
 ·obtain rfl:i=0:=by omega
  exact OT h2
set_option maxHeartbeats 4000000 in
theorem VP(s:ae)(N:Nat)(hI:mm s N):JJ 26 [.agg s.enc] [] (.p (.sl 3 ((Ad s).map ah.enc))) []:=by
 refine XX.intro Tryz.func26 rfl rfl rfl rfl ?_;unfold Ad;obtain⟨R,hR⟩:∃R,o4 s 17 0 []=R:=⟨_,rfl⟩
 rw[hR];refine⟨[3,45,46,47],[.own 9],J26 s N R,⟨17,0,[],by omega,rfl,fun h=>by omega,fun h=>by omega,by simp,hR,rfl⟩,?_⟩;rintro q S ⟨i,o,hi,rfl,iH,kl,iz,aw,rfl⟩;obtain rfl | rfl | rfl | rfl | rfl | rfl | rfl | rfl | rfl | rfl | rfl | rfl | rfl | rfl | rfl | rfl | rfl | rfl:i=0∨i=1∨i=2∨i=3∨i=4∨i=5∨i=6∨i=7∨i=8∨i=9∨i=10∨i=11∨i=12∨i=13∨i=14∨i=15∨i=16∨i=17:=by omega
 ·refine YM s N hI o (by omega) (fun h=>iH (by omega)) (fun hs S h3 hb hl hk=>?_) (fun S hs hS=>eM hI (by omega) iH kl iz aw hs hS);have e:o=R:=by rw[←aw,da hs]
  rw[St.kO h3 hb hk hl];refine Or.inl ?_;exact⟨by rw[e],rfl⟩
 ·refine YN s N hI o (by omega) (fun h=>iH (by omega)) (fun hs S h3 hb hl hk=>?_) (fun S hs hS=>eM hI (by omega) iH kl iz aw hs hS);have e:o=R:=by rw[←aw,da hs]
  rw[St.kO h3 hb hk hl];refine Or.inl ?_;exact⟨by rw[e],rfl⟩
 ·refine YO s N hI o (by omega) (fun h=>iH (by omega)) (fun hs S h3 hb hl hk=>?_) (fun S hs hS=>eM hI (by omega) iH kl iz aw hs hS);have e:o=R:=by rw[←aw,da hs]
  rw[St.kO h3 hb hk hl];refine Or.inl ?_;exact⟨by rw[e],rfl⟩
 ·refine YP s N hI o (by omega) (fun h=>iH (by omega)) (fun hs S h3 hb hl hk=>?_) (fun S hs hS=>eM hI (by omega) iH kl iz aw hs hS);have e:o=R:=by rw[←aw,da hs]
  rw[St.kO h3 hb hk hl];refine Or.inl ?_;exact⟨by rw[e],rfl⟩
 ·refine YQ s N hI o (by omega) (fun h=>iH (by omega)) (fun hs S h3 hb hl hk=>?_) (fun S hs hS=>eM hI (by omega) iH kl iz aw hs hS);have e:o=R:=by rw[←aw,da hs]
  rw[St.kO h3 hb hk hl];refine Or.inl ?_;exact⟨by rw[e],rfl⟩
 ·refine YR s N hI o (by omega) (fun h=>iH (by omega)) (fun hs S h3 hb hl hk=>?_) (fun S hs hS=>eM hI (by omega) iH kl iz aw hs hS);have e:o=R:=by rw[←aw,da hs]
  rw[St.kO h3 hb hk hl];refine Or.inl ?_;exact⟨by rw[e],rfl⟩
 ·refine YS s N hI o (by omega) (fun h=>iH (by omega)) (fun hs S h3 hb hl hk=>?_) (fun S hs hS=>eM hI (by omega) iH kl iz aw hs hS);have e:o=R:=by rw[←aw,da hs]
  rw[St.kO h3 hb hk hl];refine Or.inl ?_;exact⟨by rw[e],rfl⟩
 ·refine YT s N hI o (by omega) (fun h=>iH (by omega)) (fun hs S h3 hb hl hk=>?_) (fun S hs hS=>eM hI (by omega) iH kl iz aw hs hS);have e:o=R:=by rw[←aw,da hs]
  rw[St.kO h3 hb hk hl];refine Or.inl ?_;exact⟨by rw[e],rfl⟩
 ·refine YU s N hI o (by omega) (fun h=>iH (by omega)) (fun hs S h3 hb hl hk=>?_) (fun S hs hS=>eM hI (by omega) iH kl iz aw hs hS);have e:o=R:=by rw[←aw,da hs]
  rw[St.kO h3 hb hk hl];refine Or.inl ?_;exact⟨by rw[e],rfl⟩
 ·refine YV s N hI o (by omega) (fun h=>iH (by omega)) (fun hs S h3 hb hl hk=>?_) (fun S hs hS=>eM hI (by omega) iH kl iz aw hs hS);have e:o=R:=by rw[←aw,da hs]
  rw[St.kO h3 hb hk hl];refine Or.inl ?_;exact⟨by rw[e],rfl⟩
 ·refine VI s N hI o (by omega) (fun h=>iH (by omega)) (fun hs S h3 hb hl hk=>?_) (fun S hs hS=>eM hI (by omega) iH kl iz aw hs hS);have e:o=R:=by rw[←aw,da hs]
  rw[St.kO h3 hb hk hl];refine Or.inl ?_;exact⟨by rw[e],rfl⟩
 ·refine VJ s N hI o (by omega) (fun h=>iH (by omega)) (fun hs S h3 hb hl hk=>?_) (fun S hs hS=>eM hI (by omega) iH kl iz aw hs hS);have e:o=R:=by rw[←aw,da hs]
  rw[St.kO h3 hb hk hl];refine Or.inl ?_;exact⟨by rw[e],rfl⟩
 ·refine VK s N hI o (by omega) (fun h=>iH (by omega)) (fun hs S h3 hb hl hk=>?_) (fun S hs hS=>eM hI (by omega) iH kl iz aw hs hS);have e:o=R:=by rw[←aw,da hs]
  rw[St.kO h3 hb hk hl];refine Or.inl ?_;exact⟨by rw[e],rfl⟩
 ·refine VL s N hI o (by omega) (fun h=>iH (by omega)) (fun hs S h3 hb hl hk=>?_) (fun S hs hS=>eM hI (by omega) iH kl iz aw hs hS);have e:o=R:=by rw[←aw,da hs]
  rw[St.kO h3 hb hk hl];refine Or.inl ?_;exact⟨by rw[e],rfl⟩
 ·refine VM s N hI o (by omega) (fun h=>iH (by omega)) (fun hs S h3 hb hl hk=>?_) (fun S hs hS=>eM hI (by omega) iH kl iz aw hs hS);have e:o=R:=by rw[←aw,da hs]
  rw[St.kO h3 hb hk hl];refine Or.inl ?_;exact⟨by rw[e],rfl⟩
 ·refine VN s N hI o (by omega) (fun h=>iH (by omega)) (fun hs S h3 hb hl hk=>?_) (fun S hs hS=>eM hI (by omega) iH kl iz aw hs hS);have e:o=R:=by rw[←aw,da hs]
  rw[St.kO h3 hb hk hl];refine Or.inl ?_;exact⟨by rw[e],rfl⟩
 ·refine VO s N hI o (by omega) (fun h=>iH (by omega)) (fun hs S h3 hb hl hk=>?_) (fun S hs hS=>eM hI (by omega) iH kl iz aw hs hS);have e:o=R:=by rw[←aw,da hs]
  rw[St.kO h3 hb hk hl];refine Or.inl ?_;exact⟨by rw[e],rfl⟩
 ·have e:o=R:=aw;refine ab (fun h=>absurd (of_decide_eq_true h) (by decide)) (fun _=>?_);refine Or.inl ?_;exact⟨by rw[e],rfl⟩
def zo(l:List ah):Bool:=(l.length:Int)==0
theorem SS(s:ae)(N:Nat)(hI:mm s N):JJ 6 [.agg s.enc] [] (nB (zo (Ad s))) []:=by
 refine JJ.intro Tryz.func6 rfl rfl rfl rfl ?_;refine⟨_,VP s N hI,?_⟩;refine⟨_,al _ _,?_⟩;exact⟨rfl,rfl⟩
theorem OV(b:Bool):JJ 44 [nB b] [] (.own 5 ([(⟨⟨0,0,4⟩,b,0⟩:aS)].map aS.enc)) []:=by
 refine JJ.intro Tryz.func44 rfl rfl rfl rfl ?_;exact⟨rfl,rfl⟩
def ZQ(n log:Int)(kind:Int)(hs:List aS):aD:=⟨⟨1,n⟩,kind,⟨log,0⟩,hs,[],0,0,0,[],0,0⟩
def VQ:ae:=⟨[],false,[⟨⟨1,1⟩,[97],⟨0,0⟩,[⟨⟨1,2⟩,1⟩]⟩],
 [⟨⟨1,3⟩,⟨4,4,0,0,0,0,0,0⟩,0,0,false,0,0,0,0,0,0,[],[],[⟨[],[⟨[ZQ 4 1 1 [⟨⟨0,0,4⟩,true,0⟩],ZQ 5 2 1 [⟨⟨0,0,4⟩,false,0⟩],ZQ 6 2 2 []],[]⟩]⟩]⟩],[],[⟨1,6⟩]⟩
theorem OW:JJ 22 [] [] (.agg VQ.enc) []:=by
 refine JJ.intro Tryz.func22 rfl rfl rfl rfl ?_;refine⟨_,qg 4,?_⟩;refine⟨_,OV true,?_⟩;refine⟨_,qg 5,?_⟩;refine⟨_,OV false,?_⟩;refine⟨_,qg 6,?_⟩;refine⟨rfl,?_⟩;refine⟨rfl,?_⟩;refine⟨_,qg 1,?_⟩;refine⟨_,qg 2,?_⟩;refine⟨_,qg 3,?_⟩;refine⟨_,qg 6,?_⟩;refine⟨rfl,?_⟩;exact⟨rfl,rfl⟩
theorem gk{c:Bool}{r:Int}{id:cP}{l:List ah}(h:gE c r id l= []):c=false∧l= []:=by
 unfold gE at h;split at h
 ·simp at h
 ·rename_i hc;exact⟨by simpa using hc,h⟩
theorem jj{w:Nat→aj→Bool}{r:Int}{ms:List aj}{i:Nat}{l:List ah}(h:gS w r i ms l= []):l= []∧ ∀j,j<ms.length→w (i+j) (ms.getD j default)=false:=by
 obtain⟨h1,h2⟩:=vG w r ms i l;rw[h]at h1 h2;have hl:l= []:=List.eq_nil_of_length_eq_zero (by simp at h1;simpa using h1);subst hl;exact⟨rfl,(h2 rfl).1⟩
theorem qt{w:aj→Bool}{r:Int}{ms:List aj}{l:List ah}(h:gS (fun _ m=>w m) r 0 ms l= []):∀m∈ms,w m=false:=fun m hm=>by
 obtain⟨i,hi,rfl⟩:=kN hm;exact(jj h).2 i hi
theorem Jb{w:Nat→Nat→Nat→Nat→Bool}{r:Int}{i k v:Nat} :∀ {es:List aD} {n:Nat} {l:List ah},FJ w r i k v n es l= []→l= []∧ ∀j,j<es.length→w i k v (n+j)=false
 | [],n,l,h=>⟨h,fun j hj=>by simp at hj⟩
 | x::rest,n,l,h=>by
  obtain⟨h1,h2⟩:=Jb (es:=rest) (n:=n+1) h;obtain⟨h3,h4⟩:=gk h1;refine⟨h4,fun j hj=>?_⟩;cases j with
  | zero=>exact h3
  | succ j=>
   have:=h2 j (by simpa using hj);rw[show n+(j+1)=n+1+j by omega];exact this
theorem Jc{w:Nat→Nat→Nat→Nat→Bool}{r:Int}{i k:Nat} :∀ {vs:List ax} {v:Nat} {l:List ah},wY w r i k v vs l= []→l= []∧ ∀a,a<vs.length→ ∀n,n<(vs.getD a default).ak.length→w i k (v+a) n=false
 | [],v,l,h=>⟨h,fun j hj=>by simp at hj⟩
 | x::rest,v,l,h=>by
  obtain⟨h1,h2⟩:=Jc (vs:=rest) (v:=v+1) h;obtain⟨h3,h4⟩:=Jb h1;refine⟨h3,fun a ha n hn=>?_⟩;cases a with
  | zero=>
   have:=h4 n hn;rw[Nat.zero_add]at this;exact this
  | succ a=>
   have:=h2 a (by simpa using ha) n hn;rw[show v+(a+1)=v+1+a by omega];exact this
theorem Jd{w:Nat→Nat→Nat→Nat→Bool}{r:Int}{i:Nat} :∀ {cs:List aI} {k:Nat} {l:List ah},FK w r i k cs l= []→l= []∧ ∀b,b<cs.length→ ∀a,a<(cs.getD b default).ai.length→ ∀n,n<((cs.getD b default).ai.getD a default).ak.length→w i (k+b) a n=false
 | [],k,l,h=>⟨h,fun j hj=>by simp at hj⟩
 | x::rest,k,l,h=>by
  obtain⟨h1,h2⟩:=Jd (cs:=rest) (k:=k+1) h;obtain⟨h3,h4⟩:=Jc h1;refine⟨h3,fun b hb a ha n hn=>?_⟩;cases b with
  | zero=>
   have:=h4 a ha n hn;rw[Nat.zero_add]at this;exact this
  | succ b=>
   have:=h2 b (by simpa using hb) a ha n hn;rw[show k+(b+1)=k+1+b by omega];exact this
theorem Fp{w:Nat→Nat→Nat→Nat→Bool}{r:Int} :∀ {ms:List aj} {i:Nat} {l:List ah},zI w r i ms l= []→l= []∧ ∀c,c<ms.length→ ∀b,b<(ms.getD c default).Cells.length→ ∀a,a<((ms.getD c default).Cells.getD b default).ai.length→ ∀n,n<(((ms.getD c default).Cells.getD b default).ai.getD a default).ak.length→w (i+c) b a n=false
 | [],i,l,h=>⟨h,fun j hj=>by simp at hj⟩
 | x::rest,i,l,h=>by
  obtain⟨h1,h2⟩:=Fp (ms:=rest) (i:=i+1) h;obtain⟨h3,h4⟩:=Jd h1;refine⟨h3,fun c hc b hb a ha n hn=>?_⟩;cases c with
  | zero=>
   have:=h4 b hb a ha n hn;rw[Nat.zero_add]at this;exact this
  | succ c=>
   have:=h2 c (by simpa using hc) b hb a ha n hn;rw[show i+(c+1)=i+1+c by omega];exact this
theorem ox{w:Nat→Nat→Nat→Nat→Bool}{r:Int}{s:ae}{l:List ah}(h:zI w r 0 s.aa l= []):l= []∧ ∀i k v n,At s i k v n→w i k v n=false:=by
 obtain⟨h1,h2⟩:=Fp h;refine⟨h1,fun i k v n hA=>?_⟩;have:=h2 i hA.hi k hA.hc v hA.hv n hA.hx;rw[Nat.zero_add]at this;exact this
theorem Ds{r:Int} :∀ {ps:List cf} {l:List ah},RX r ps l= []→l= []∧ ∀p∈ps,Wx p=false
 | [],l,h=>⟨h,fun p hp=>by simp at hp⟩
 | x::rest,l,h=>by
  obtain⟨h1,h2⟩:=Ds (ps:=rest) h;obtain⟨h3,h4⟩:=gk h1;refine⟨h4,fun p hp=>?_⟩;rcases List.mem_cons.1 hp with rfl | hp
  ·exact h3
  ·exact h2 p hp
theorem Dt{r:Int} :∀ {ps:List aj} {l:List ah},VF r ps l= []→l= []∧ ∀p∈ps,Wy p=false
 | [],l,h=>⟨h,fun p hp=>by simp at hp⟩
 | x::rest,l,h=>by
  obtain⟨h1,h2⟩:=Dt (ps:=rest) h;obtain⟨h3,h4⟩:=gk h1;refine⟨h4,fun p hp=>?_⟩;rcases List.mem_cons.1 hp with rfl | hp
  ·exact h3
  ·exact h2 p hp
theorem Du{s:ae}{r:Int} :∀ {ids seen:List cP} {l:List ah},VB s r ids seen l= []→l= []∧ids.Pairwise (· ≠ ·)∧ ∀id∈ids,id∉seen
 | [],seen,l,h=>⟨h,.nil,fun p hp=>by simp at hp⟩
 | x::rest,seen,l,h=>by
  obtain⟨h1,h2,h3⟩:=Du (ids:=rest) h;obtain⟨h4,h5⟩:=gk h1;have hx:x∉seen:=by
   unfold YE at h4;simp only[aX,Bool.or_eq_false_iff,decide_eq_false_iff_not]at h4;exact h4.1.2
  refine⟨h5,List.pairwise_cons.2 ⟨fun y hy e=>?_,h2⟩,fun y hy=>?_⟩
  ·exact h3 y hy ((zk x y seen).2 (.inl e.symm))
  ·rcases List.mem_cons.1 hy with rfl | hy
   ·exact hx
   ·exact fun hm=>h3 y hy ((zk x y seen).2 (.inr hm))
theorem Je{r:Int} :∀ {ps:List ee} {l:List ah},SM r ps l= []→l= []∧ ∀p∈ps,ef p.fq=false
 | [],l,h=>⟨h,fun p hp=>by simp at hp⟩
 | x::rest,l,h=>by
  obtain⟨h1,h2⟩:=Je (ps:=rest) h;obtain⟨h3,h4⟩:=gk h1;refine⟨h4,fun p hp=>?_⟩;rcases List.mem_cons.1 hp with rfl | hp
  ·cases hc:ef p.fq with
   | false=>rfl
   | true=>rw[hc]at h3;simp at h3
  ·exact h2 p hp
theorem Dv{r:Int} :∀ {ps:List cf} {l:List ah},U5 r ps l= []→l= []∧ ∀p∈ps,∀x∈p.aL,ef x.fq=false
 | [],l,h=>⟨h,fun p hp=>by simp at hp⟩
 | x::rest,l,h=>by
  obtain⟨h1,h2⟩:=Dv (ps:=rest) h;obtain⟨h3,h4⟩:=Je h1;refine⟨h3,fun p hp=>?_⟩;rcases List.mem_cons.1 hp with rfl | hp
  ·exact h4
  ·exact h2 p hp
theorem Jf{L:List (cr×Bool)}{r:Int} :∀ {xs:List br} {i:Nat} {l:List ah},Vo L r i xs l= []→l= []
 | [],i,l,h=>h
 | x::rest,i,l,h=>(gk (Jf (xs:=rest) h)).2
theorem Jg{L:List (cr×Bool)}{r:Int} :∀ {xs:List br} {i:Nat} {l:List ah},SN L r i xs l= []→l= []
 | [],i,l,h=>h
 | x::rest,i,l,h=>(gk (Jg (xs:=rest) h)).2
theorem Dw{r:Int} :∀ {ms:List aj} {g:ck} {l:List ah},(RS r g ms l).1= []→l= []
 | [],g,l,h=>h
 | m::rest,g,l,h=>by
  unfold RS at h;split at h
  ·exact(gk (show gE true r m.ID l= []from h)).2
  ·exact Dw h
theorem R0{s:ae}{r:Int}{l:List ah}(h:Pl s r l= []):l= []:=by
 unfold Pl at h;obtain⟨l1,si⟩:∃l1,gS (fun _ m=>Ab m) r 0 s.aa l=l1:=⟨_,rfl⟩
 simp only[si]at h;have key:l1= []→l= []:=fun e=>(jj (si.trans e)).1
 split at h
 ·exact key h
 ·split at h
  ·rename_i e;refine key (Dw (r:=r) (g:=Aa) (ms:=s.aa) ?_);rw[e];exact h
  ·rename_i l2 g e;refine key (Dw (r:=r) (g:=Aa) (ms:=s.aa) ?_);rw[e];exact(gk h).2
theorem KR{s:ae}{i:Nat}{l:List ah}(h:uu s i l= []):l= []:=by
 unfold uu at h;split at h
 ·exact(Ds (Dt (gk h).2).1).1
 ·exact(Du (gk h).2).1
 ·exact(jj h).1
 ·exact(Dv (jj h).1).1
 ·exact(jj h).1
 ·exact(jj h).1
 ·exact(jj h).1
 ·exact(ox h).1
 ·exact(ox h).1
 ·exact(ox h).1
 ·exact(ox h).1
 ·exact Jf h
 ·exact Jg h
 ·exact R0 h
 ·exact(jj h).1
 ·exact(jj h).1
 ·exact(ox h).1
 ·exact h
theorem Bg{s:ae} :∀ {n i:Nat} {l:List ah},o4 s n i l= []→l= []∧ ∀j,i≤j→j<i+n→uu s j []= []
 | 0,i,l,h=>⟨h,fun j h1 h2=>by omega⟩
 | n+1,i,l,h=>by
  unfold o4 at h;split at h
  ·rename_i hs;subst h;simp[dN]at hs
  ·obtain⟨h1,h2⟩:=Bg h;have hl:=KR h1;subst hl;refine⟨rfl,fun j h3 h4=>?_⟩;by_cases hj:j=i
   ·rw[hj];exact h1
   ·exact h2 j (by omega) (by omega)
def nw(s:ae):Prop:=Ad s= []
theorem nw.aO{s:ae}(h:nw s)(j:Nat)(hj:j<17):uu s j []= []:=(Bg h).2 j (by omega) (by omega)
theorem KS{s:ae}(h:zo (Ad s)=true):nw s:=by
 unfold zo at h;have:(Ad s).length=0:=by simpa using h
 exact List.eq_nil_of_length_eq_zero this
theorem Bh:∀ {vs:List ax} {w:Bool},VE w vs=false→w=false∧ ∀v∈vs,v.ak.length≤128∧v.eH.length≤16
 | [],w,h=>⟨h,fun v hv=>by simp at hv⟩
 | x::r,w,h=>by
  obtain⟨h1,h2⟩:=Bh (vs:=r) h;simp only[aX,Bool.or_eq_false_iff,decide_eq_false_iff_not]at h1;refine⟨h1.1.1,fun v hv=>?_⟩;rcases List.mem_cons.1 hv with rfl | hv
  ·omega
  ·exact h2 v hv
theorem Bi:∀ {cs:List aI} {w:Bool},RY w cs=false→w=false∧ ∀c∈cs,c.ai.length≤2∧ ∀v∈c.ai,v.ak.length≤128∧v.eH.length≤16
 | [],w,h=>⟨h,fun v hv=>by simp at hv⟩
 | x::r,w,h=>by
  obtain⟨h1,h2⟩:=Bi (cs:=r) h;obtain⟨h3,h4⟩:=Bh h1;unfold ZP at h3;simp only[aX,Bool.or_eq_false_iff,decide_eq_false_iff_not]at h3;refine⟨h3.1.1,fun v hv=>?_⟩;rcases List.mem_cons.1 hv with rfl | hv
  ·exact⟨by omega,h4⟩
  ·exact h2 v hv
theorem nw.r1{s:ae}(h:nw s):0<s.aa.length∧(∀p∈s.ay,1≤p.aL.length∧p.aL.length≤4∧p.aT.ok=true)∧ ∀m∈s.aa,∀c∈m.Cells,c.ai.length≤2∧ ∀v∈c.ai,v.ak.length≤128∧v.eH.length≤16:=by
 have h0:v1 s 1 []= []:=h.aO 0 (by omega);obtain⟨h1,h2⟩:=Dt (gk h0).2;obtain⟨_,h3⟩:=Ds h1;refine⟨OT h0,fun p hp=>?_,fun m hm=>?_⟩
 ·have:=h3 p hp;unfold Wx at this;simp only[aX,Bool.or_eq_false_iff,Bool.not_eq_false',Bool.and_eq_true,decide_eq_true_eq]at this;obtain⟨⟨_,h4⟩,h5⟩:=this;refine⟨by omega,by omega,?_⟩;cases ho:p.aT.ok with
  | true=>rfl
  | false=>rw[ho]at h5;simp at h5
 ·exact(Bi (h2 m hm)).2
theorem nw.r2{s:ae}(h:nw s):s.ids.Pairwise (· ≠ ·):=(Du (gk (show v2 s 2 []= []from h.aO 1 (by omega))).2).2.1
theorem Bj:∀ {vs:List ax} {w:Bool},UW w vs=false→w=false
 | [],w,h=>h
 | x::r,w,h=>by
  have h1:=Bj (vs:=r) h;rw[aX,Bool.or_eq_false_iff]at h1;exact h1.1
theorem Bk:∀ {cs:List aI} {w:Bool},Wr w cs=false→w=false
 | [],w,h=>h
 | x::r,w,h=>by
  have h1:=Bj (Bk (cs:=r) h);unfold IN at h1;simp only[aX,Bool.or_eq_false_iff]at h1;exact h1.1.1.1
theorem nw.r3{s:ae}(h:nw s):∀m∈s.aa,(m.Cells.length:Int)=s.bG:=fun m hm=>by
 have h0:v3 s 3 []= []:=h.aO 2 (by omega);have h1:=Bk (show Wr ((m.Cells.length:Int)!=s.bG) m.Cells=false from qt h0 m hm);simpa using h1
theorem Bl{len:Int}{L:List ba} :∀ {l:List ba} {w:Bool} {i:Nat},U2 len L w i l=false→w=false∧ ∀x∈l,ef x.fq=false∧0≤x.At
 | [],w,i,h=>⟨h,fun v hv=>by simp at hv⟩
 | y::r,w,i,h=>by
  obtain⟨h1,h2⟩:=Bl (l:=r) h;unfold Hp at h1;simp only[aX,Bool.or_eq_false_iff,Bool.not_eq_false',Bool.and_eq_true,decide_eq_true_eq]at h1;obtain⟨⟨⟨h3,h4⟩,h5⟩,h6⟩:=h1;refine⟨h3,fun v hv=>?_⟩;rcases List.mem_cons.1 hv with rfl | hv
  ·refine⟨?_,h5.1⟩;cases hc:ef v.fq with
   | false=>rfl
   | true=>rw[hc]at h4;simp at h4
  ·exact h2 v hv
theorem Bm{len:Int} :∀ {cs:List aI} {w:Bool},U3 len w cs=false→w=false∧ ∀c∈cs,∀x∈c.bm,ef x.fq=false∧0≤x.At
 | [],w,h=>⟨h,fun v hv=>by simp at hv⟩
 | y::r,w,h=>by
  obtain⟨h1,h2⟩:=Bm (cs:=r) h;obtain⟨h3,h4⟩:=Bl h1;refine⟨h3,fun v hv=>?_⟩;rcases List.mem_cons.1 hv with rfl | hv
  ·exact h4
  ·exact h2 v hv
theorem Bn{s:ae}{m:aj} :∀ {ps:List cf} {w:Bool},Yr s m w ps=false→(w=false∨s.Written=true∧ps≠ []∧w=false)∧(s.Written=true→ ∀p∈ps,(jt m.dO p.aT).2=0)
 | [],w,h=>⟨.inl h,fun _ v hv=>by simp at hv⟩
 | p::r,w,h=>by
  obtain⟨h1,h2⟩:=Bn (ps:=r) h;have h1:(if(bif s.Written then !w else false)=true then(jt m.dO p.aT).2 !=0 else w)=false:=by
   rcases h1 with h1 | h1
   ·exact h1
   ·exact h1.2.2
  have hw:w=false:=by
   cases w with
   | false=>rfl
   | true=>cases hs:s.Written<;>rw[hs]at h1<;>simp at h1
  refine⟨.inl hw,fun hs q hq=>?_⟩;rcases List.mem_cons.1 hq with rfl | hq
  ·rw[hs,hw]at h1;simpa using h1
  ·exact h2 hs q hq
theorem nw.r5{s:ae}(h:nw s):∀m∈s.aa,m.cI=0∧(s.Written=true→ ∀p∈s.ay,(jt m.dO p.aT).2=0):=fun m hm=>by
 have h0:v5 s 5 []= []:=h.aO 4 (by omega);have h1:IP s m=false:=qt h0 m hm;obtain⟨h2,h3⟩:=Bn h1;have h2:UZ m=false:=by
  rcases h2 with h2 | h2
  ·exact h2
  ·exact h2.2.2
 unfold UZ at h2;rw[aX,Bool.or_eq_false_iff]at h2;exact⟨by simpa using h2.1,h3⟩
theorem nw.r4{s:ae}(h:nw s):(∀p∈s.ay,∀x∈p.aL,ef x.fq=false)∧ ∀m∈s.aa,∀c∈m.Cells,∀x∈c.bm,ef x.fq=false∧0≤x.At:=by
 have h0:v4 s 4 []= []:=h.aO 3 (by omega);refine⟨(Dv (jj h0).1).2,fun m hm=>?_⟩;have h1:Fi m=false:=qt h0 m hm;have h2:=(h.r5 m hm).1;unfold Fi at h1;rw[aR,h2]at h1;have h1:U3 m.len false m.Cells=false:=by simpa using h1
 exact(Bm h1).2
theorem nw.r8{s:ae}(h:nw s):∀i k v n,At s i k v n→(s.ev i k v n).err=0:=fun i k v n hA=>by
 have h0:v8 s 8 []= []:=h.aO 7 (by omega);have:=(ox h0).2 i k v n hA;unfold Hq at this;simpa using this
theorem nw.r10{s:ae}(h:nw s):∀i k v n,At s i k v n→Oj s (kV i k v n) (s.ev i k v n)=false:=fun i k v n hA=>by
 have h0:v10 s 10 []= []:=h.aO 9 (by omega);exact(ox h0).2 i k v n hA
theorem nw.r67{s:ae}(h:nw s):∀i k v,i<s.aa.length→k<(s.aa.getD i default).Cells.length→v<s.kx i k→(bu (s.vo i k v) (s.aa.getD i default).len).2=0:=fun i k v hi hk hv=>by
 have h6:v6 s 6 []= []:=h.aO 5 (by omega);have h7:v7 s 7 []= []:=h.aO 6 (by omega);have hm:=av hi;have h6:=qt h6 _ hm;have h7:=qt h7 _ hm;have hle:=(h.r5 _ hm).1;unfold Ws at h6 h7;rw[if_neg (by rw[hle];simp)]at h6 h7;rw[List.any_eq_false]at h6 h7;have h6:=h6 _ (av hk);have h7:=h7 _ (av hk);unfold ceF at h6 h7;have w7:v<((s.aa.getD i default).Cells.getD k default).ai.length:=hv;have h6:=List.any_eq_false.1 (Bool.eq_false_iff.2 h6) _ (av w7);have h7:=List.any_eq_false.1 (Bool.eq_false_iff.2 h7) _ (av w7);have sg:(s.vo i k v).ak.any Hq=false:=by
  rw[List.any_eq_false];intro e he;obtain⟨n,hn,rfl⟩:=kN he;have:=h.r8 i k v n ⟨hi,hk,hv,hn⟩;unfold Hq;show ¬((s.ev i k v n).err !=0)=true;rw[this];simp
 unfold voF at h6 h7;have e:((s.aa.getD i default).Cells.getD k default).ai.getD v default=s.vo i k v:=rfl;rw[e,sg]at h6 h7;obtain⟨x,hx⟩:∃x,x=(bu (s.vo i k v) (s.aa.getD i default).len).2:=⟨_,rfl⟩
 rw[←hx]at h6 h7 ⊢;simp only[Bool.not_false,cond_true,Oh,Hr]at h6 h7;by_cases Wq:x=0
 ·exact Wq
 ·have h8:(x !=0)=true:=by simpa using Wq
  rw[h8]at h7;simp only[cond_true]at h7;rw[Bool.not_eq_true]at h6;rw[h6]at h7;simp at h7
structure ZR(e:aD):Prop where
 eF:e.aE.length≤12
 G9:e.cQ.length≤12
 Ha:e.bz.length≤12
structure Wz(v:ax):Prop where
 events:v.ak.length≤20
 all:∀e∈v.ak,ZR e
structure YW(c:aI):Prop where
 dI:c.ai.length≤3
 all:∀v∈c.ai,Wz v
structure ZS(m:aj):Prop where
 cells:m.Cells.length≤5
 all:∀c∈m.Cells,YW c
structure wJ(s:ae):Prop where
 parts:s.ay.length≤4
 bG:∀p∈s.ay,p.aL.length≤5
 kM:s.aa.length≤10
 span:s.au.length≤10
 all:∀m∈s.aa,ZS m
theorem Fq:∀ {l:List aD},G5 l=true→ ∀e∈l,ZR e
 | [],h,e,he=>by simp at he
 | x::r,h,e,he=>by
  unfold G5 at h;split at h
  ·cases h
  ·rename_i hb;split at h
   ·rcases List.mem_cons.1 he with rfl | he
    ·have hb:E0 e=false:=by simpa using hb
     unfold E0 at hb;simp only[aX,Bool.or_eq_false_iff,decide_eq_false_iff_not]at hb;exact⟨by omega,by omega,by omega⟩
    ·exact Fq h e he
   ·cases h
theorem R3{v:ax}(h:z5 v=true):Wz v:=by
 unfold z5 at h;simp only[aR,Bool.and_eq_true,decide_eq_true_eq]at h;exact⟨by omega,Fq h.1⟩
theorem Jh:∀ {l:List ax} {a b:Int} {q:Int×Int},Iy a b l=some q→ ∀v∈l,Wz v
 | [],a,b,q,h,v,hv=>by simp at hv
 | x::r,a,b,q,h,v,hv=>by
  unfold Iy at h;split at h
  ·cases h
  ·rename_i hf;split at h
   ·cases h
   ·rcases List.mem_cons.1 hv with rfl | hv
    ·exact R3 (by simpa using hf)
    ·exact Jh h v hv
theorem Ji:∀ {l:List aI} {a b:Int} {q:Int×Int},G7 a b l=some q→ ∀v∈l,YW v
 | [],a,b,q,h,v,hv=>by simp at hv
 | x::r,a,b,q,h,v,hv=>by
  unfold G7 at h;split at h
  ·cases h
  ·rename_i hf;split at h
   ·cases h
   ·rename_i q2 hq;rcases List.mem_cons.1 hv with rfl | hv
    ·have hf:ue v=false:=by simpa using hf
     unfold ue at hf;simp only[aX,Bool.or_eq_false_iff,decide_eq_false_iff_not]at hf;exact⟨by omega,Jh hq⟩
    ·exact Ji h v hv
theorem Jj:∀ {l:List aj} {a b:Int},Kv a b l=true→ ∀v∈l,ZS v
 | [],a,b,h,v,hv=>by simp at hv
 | x::r,a,b,h,v,hv=>by
  unfold Kv at h;split at h
  ·cases h
  ·rename_i hf;split at h
   ·cases h
   ·rename_i q2 hq;rcases List.mem_cons.1 hv with rfl | hv
    ·have hf:yX v=false:=by simpa using hf
     unfold yX at hf;simp only[aX,Bool.or_eq_false_iff,decide_eq_false_iff_not]at hf;exact⟨by omega,Ji hq⟩
    ·exact Jj h v hv
theorem Jk:∀ {l:List cf},Us l=true→ ∀p∈l,p.aL.length≤5
 | [],h,v,hv=>by simp at hv
 | x::r,h,v,hv=>by
  unfold Us at h;split at h
  ·cases h
  ·rename_i hf;rcases List.mem_cons.1 hv with rfl | hv
   ·have hf:uf v=false:=by simpa using hf
    unfold uf at hf;simp only[aX,Bool.or_eq_false_iff,decide_eq_false_iff_not]at hf;omega
   ·exact Jk h v hv
theorem vL{s:ae}(h:oj s=true):wJ s:=by
 unfold oj at h;split at h
 ·cases h
 ·rename_i h1;split at h
  ·cases h
  ·rename_i h2;unfold smS at h;simp only[aR,Bool.and_eq_true,decide_eq_true_eq]at h;exact⟨by omega,Jk (by simpa using h1),by omega,by omega,Jj (by simpa using h2)⟩
def zp:List cf→Nat
 | []=>0
 | p::r=>p.aL.length+zp r
theorem Jl:∀(l:List cf),(∀p∈l,p.aL.length≤5)→zp l≤5*l.length
 | [],h=>Nat.le_refl _
 | p::r,h=>by
  have:=Jl r (fun q hq=>h q (by simp[hq]));have:=h p (by simp);unfold zp;rw[List.length_cons];omega
theorem rH:∀(l:List cf) (a:Nat),(∀p∈l,p.aL.length≤5)→a+5*l.length≤1000000→gD (a:Int) l=((a+zp l:Nat):Int)
 | [],a,h,hl=>rfl
 | p::r,a,h,hl=>by
  have h1:=h p (by simp);rw[List.length_cons]at hl;unfold gD;rw[wrap_i64 (by omega) (by omega)];have:=rH r (a+p.aL.length) (fun q hq=>h q (by simp[hq])) (by omega);rw[show((a:Int)+(p.aL.length:Int))=((a+p.aL.length:Nat):Int)by omega,this];show _=((a+(p.aL.length+zp r):Nat):Int);omega
def ae.o5(s:ae):Nat:=zp s.ay
theorem wJ.o5{s:ae}(h:wJ s):s.bG=(s.o5:Int):=by
 have:=rH s.ay 0 h.bG (by have:=h.parts;omega);unfold ae.bG ae.o5;rw[show((0:Nat):Int)=0 from rfl,Nat.zero_add]at this;exact this
theorem wJ.Hx{s:ae}(h:wJ s):s.o5≤20:=by
 have:=Jl s.ay h.bG;have:=h.parts;unfold ae.o5;omega
theorem oy(s:ae)(i k:Nat):s.kx i k=((s.aa.getD i default).Cells.getD k default).ai.length:=rfl
theorem wJ.mea{s:ae}(h:wJ s){i:Nat}(hi:i<s.aa.length):ZS (s.aa.getD i default):=h.all _ (av hi)
theorem wJ.YX{s:ae}(h:wJ s){i k:Nat}(hi:i<s.aa.length)(hk:k<(s.aa.getD i default).Cells.length):YW ((s.aa.getD i default).Cells.getD k default):=(h.mea hi).all _ (av hk)
theorem wJ.VR{s:ae}(h:wJ s){i k v:Nat}(hi:i<s.aa.length)(hk:k<(s.aa.getD i default).Cells.length)(hv:v<s.kx i k):Wz (s.vo i k v):=(h.YX hi hk).all _ (av hv)
theorem wJ.eve{s:ae}(h:wJ s){i k v n:Nat}(hA:At s i k v n):ZR (s.ev i k v n):=(h.VR hA.hi hA.hc hA.hv).all _ (av hA.hx)
theorem wJ.vK{s:ae}(h:wJ s):rl s where
 ep:=h.kM
 cells:=fun i hi=>by have:=(h.mea hi).cells;omega
 dI:=fun i k hi hk=>by have:=(h.YX hi hk).dI;rw[oy];omega
 events:=fun i k v hi hk hv=>by have:=(h.VR hi hk hv).events;omega
theorem wK(s:ae)(m c v:Int):cO s m c v= []∨ ∃i k j:Nat,m=i∧c=k∧v=j∧i<s.aa.length∧k<(s.aa.getD i default).Cells.length∧j<s.kx i k∧cO s m c v=(s.vo i k j).ak:=by
 unfold cO;by_cases h:Ny s m c v=true
 ·exact .inl (if_pos h)
 ·rw[if_neg h];have h:Ny s m c v=false:=by simpa using h
  unfold Ny Wm Wl Wk Wj at h;simp only[aX,Bool.or_eq_false_iff,decide_eq_false_iff_not]at h;obtain⟨⟨⟨⟨⟨h1,h2⟩,h3⟩,h4⟩,h5⟩,h6⟩:=h;exact .inr ⟨m.toNat,c.toNat,v.toNat,by omega,by omega,by omega,by omega,by unfold ae.Q2 at h4;omega,by unfold ae.Wi ae.Q2 at h6;rw[oy];omega,rfl⟩
theorem wJ.sv{s:ae}(h:wJ s)(m c v:Int):(cO s m c v).length≤20∧ ∀e∈cO s m c v,ZR e:=by
 rcases wK s m c v with e | ⟨i,k,j,_,_,_,hi,hk,hj,e⟩
 ·rw[e];exact⟨by simp,fun e he=>by simp at he⟩
 ·rw[e];have:=h.VR hi hk hj;exact⟨this.events,this.all⟩
theorem wJ.OS{s:ae}(h:wJ s):KI s where
 small:=fun m c v e he=>by
  have:=(h.sv m c v).2 e he;exact⟨by have:=this.eF;omega,by have:=this.G9;omega,by have:=this.Ha;omega⟩
 events:=fun m c v=>by have:=(h.sv m c v).1;omega
 eF:=fun q=>by
  have Wf:(12:Nat)≤maxLen:=by decide
  unfold gK;split
  ·exact Nat.zero_le _
  ·show(Uv s q).aE.length≤maxLen;unfold Uv;by_cases hq:q.Event.toNat<(cO s q.bc q.bA q.cj).length
   ·have:=((h.sv q.bc q.bA q.cj).2 _ (av hq)).eF;omega
   ·rw[List.getD_eq_getElem?_getD,List.getElem?_eq_none (by omega)];exact Nat.zero_le _
theorem Jm:∀(l:List ee) (st:Nat),(FL st l).length=l.length
 | [],st=>rfl
 | x::r,st=>by simp[FL,Jm r]
theorem Jn:∀(l:List cf) (i st:Nat),(∀p∈l,p.aL.length≤5)→(FM i st l).length≤6*l.length
 | [],i,st,h=>Nat.le_refl _
 | x::r,i,st,h=>by
  have:=Jn r (i+1) (st+x.aL.length) (fun q hq=>h q (by simp[hq]));have:=h x (by simp);simp only[FM,List.length_cons,List.length_append,Jm];omega
theorem Jo(i k v:Nat):∀(l:List aD) (n:Nat),(z8 i k v n l).length=l.length
 | [],n=>rfl
 | x::r,n=>by simp[z8,Jo i k v r]
theorem Jp(i k:Nat):∀(l:List ax) (n:Nat),(∀v∈l,Wz v)→(xv i k n l).length≤20*l.length
 | [],n,h=>Nat.le_refl _
 | x::r,n,h=>by
  have:=Jp i k r (n+1) (fun q hq=>h q (by simp[hq]));have:=(h x (by simp)).events;simp only[xv,List.length_cons,List.length_append,Jo];omega
theorem Jq(i:Nat):∀(l:List aI) (n:Nat),(∀c∈l,YW c)→(zJ i n l).length≤60*l.length
 | [],n,h=>Nat.le_refl _
 | x::r,n,h=>by
  have:=Jq i r (n+1) (fun q hq=>h q (by simp[hq]));have:=Jp i n x.ai 0 (h x (by simp)).all;have:=(h x (by simp)).dI;simp only[zJ,List.length_cons,List.length_append];omega
theorem Jr:∀(l:List aj) (n:Nat),(∀c∈l,ZS c)→(uD n l).length≤301*l.length
 | [],n,h=>Nat.le_refl _
 | x::r,n,h=>by
  have:=Jr r (n+1) (fun q hq=>h q (by simp[hq]));have:=Jq n x.Cells 0 (h x (by simp)).all;have:=(h x (by simp)).cells;simp only[uD,List.length_cons,List.length_append];omega
theorem Js:∀(l:List br) (n:Nat),(sP n l).length=l.length
 | [],n=>rfl
 | x::r,n=>by simp[sP,Js r]
theorem wJ.YZ{s:ae}(h:wJ s)(hw:s.wf):mm s s.o5 where
 wf:=hw
 parts:=by have:=h.parts;omega
 bG:=fun p hp=>by have:=h.bG p hp;omega
 kM:=by have:=h.kM;omega
 vis:=by
  have:=Jn s.ay 0 0 h.bG;have:=Jr s.aa 0 h.all;have:=h.parts;have:=h.kM;have:=h.span;unfold bZ;rw[List.length_append,List.length_append,Js];omega
 span:=by have:=h.span;omega
 vK:=h.vK
 OS:=h.OS
 num:=h.o5
 YK:=by have:=h.Hx;omega
def iM:List Int→Nat→Int
 | _,0=>0
 | [],_+1=>0
 | v::r,k+1=>v+iM r k
theorem Bo:∀ {l:List Int} {k:Nat},k<l.length→iM l (k+1)=iM l k+l.getD k default
 | [],k,h=>by simp at h
 | v::r,0,h=>by simp[iM]
 | v::r,k+1,h=>by
  have:=Bo (l:=r) (k:=k) (by simpa using h);show v+iM r (k+1)=v+iM r k+r.getD k default;omega
theorem qu:∀ {l:List Int} {k:Nat},(∀x∈l,0≤x)→0≤iM l k
 | [],0,h=>Int.le_refl _
 | [],k+1,h=>Int.le_refl _
 | v::r,0,h=>Int.le_refl _
 | v::r,k+1,h=>by
  have:=qu (l:=r) (k:=k) (fun x hx=>h x (by simp[hx]));have:=h v (by simp);show 0≤v+iM r k;omega
theorem wL:∀ {l:List Int} {k:Nat},(∀x∈l,0≤x)→iM l k≤iM l l.length
 | [],0,h=>Int.le_refl _
 | [],k+1,h=>Int.le_refl _
 | v::r,0,h=>qu h
 | v::r,k+1,h=>by
  have:=wL (l:=r) (k:=k) (fun x hx=>h x (by simp[hx]));show v+iM r k≤v+iM r r.length;omega
theorem Fs:∀(l:List Int) (a:Int),(∀x∈l,0≤x∧x≤253671505920)→0≤a→a+253671505920*l.length≤9000000000000000000→ub a l=a+iM l l.length
 | [],a,h,h0,hb=>by show a=a+0;omega
 | v::r,a,h,h0,hb=>by
  have hv:=h v (by simp);rw[List.length_cons]at hb;show ub (IntKind.i64.wrap (a+v)) r=a+(v+iM r r.length);rw[wrap_i64 (by omega) (by omega),Fs r (a+v) (fun x hx=>h x (by simp[hx])) (by omega) (by omega)];omega
theorem Jt:∀(l:List Int) (a:Int),(∀x∈l,0≤x∧x≤253671505920)→0≤a→a+253671505920*l.length≤9000000000000000000→ ∀k,k<l.length→(ml a l).getD k default=a+iM l k
 | [],a,h,h0,hb,k,hk=>by simp at hk
 | v::r,a,h,h0,hb,0,hk=>by simp[ml,iM]
 | v::r,a,h,h0,hb,k+1,hk=>by
  have hv:=h v (by simp);rw[List.length_cons]at hb;have:=Jt r (a+v) (fun x hx=>h x (by simp[hx])) (by omega) (by omega) k (by simpa using hk);show(ml (IntKind.i64.wrap (a+v)) r).getD k default=a+(v+iM r k);rw[wrap_i64 (by omega) (by omega),this];omega
theorem uw{l:List aG}{n:Int}(hl:Ku l n):∀(vs:List Int) (k:Nat) (acc:List Int),(fH l k acc vs).2=0→(fH l k acc vs).1.length=acc.length+vs.length∧ ∀x∈(fH l k acc vs).1,x∈acc∨0≤x∧x≤253671505920
 | [],k,acc,h=>⟨rfl,fun x hx=> .inl hx⟩
 | v::r,k,acc,h=>by
  unfold fH at h ⊢;split
  ·rename_i hs;rw[if_pos hs]at h;exact absurd h hs
  ·rename_i hs;rw[if_neg hs]at h;obtain⟨h1,h2⟩:=uw hl r (k+1) _ h;refine⟨by rw[h1];simp;omega,fun x hx=>?_⟩;rcases h2 x hx with h3 | h3
   ·rcases List.mem_append.1 h3 with h4 | h4
    ·exact .inl h4
    ·rw[List.mem_singleton]at h4;exact .inr (by rw[h4];exact qe hl)
   ·exact .inr h3
theorem Ft{v:ax}{n:Int}(h:(dD v n).2=0):v.ak.length≤128∧(dD v n).1.length=v.ak.length∧ ∀x∈(dD v n).1,0≤x∧x≤253671505920:=by
 unfold dD at h ⊢;split
 ·rename_i h1;rw[if_pos h1]at h;cases h
 ·rename_i h1;rw[if_neg h1]at h;split
  ·rename_i h2;rw[if_pos h2]at h;cases h
  ·rename_i h2;rw[if_neg h2]at h;refine⟨by omega,?_⟩;split
   ·rename_i h3;rw[if_pos h3]at h;split
    ·rename_i h4;rw[if_pos h4]at h;exact absurd h h4
    ·rename_i h4;rw[if_neg h4]at h;split
     ·rename_i h5;rw[if_pos h5]at h;cases h
     ·rw[aR,Bool.and_eq_true]at h3;have h6:(v.ak.length:Int)=1:=by simpa using h3.2
      have h1:yR n=false:=by simpa using h1
      unfold yR at h1;rw[aX,Bool.or_eq_false_iff,decide_eq_false_iff_not,decide_eq_false_iff_not]at h1;refine⟨by show 1=_;omega,fun x hx=>?_⟩;rw[List.mem_singleton]at hx;subst hx;omega
   ·rename_i h3;rw[if_neg h3]at h;unfold yQ at h ⊢;split
    ·rename_i h4;rw[if_pos h4]at h;exact absurd h h4
    ·rename_i h4;rw[if_neg h4]at h;unfold qT at h ⊢;split
     ·rename_i h5;rw[if_pos h5]at h;exact absurd h h5
     ·rename_i h5;rw[if_neg h5]at h;split
      ·rename_i h6;rw[if_pos h6]at h;cases h
      ·have h5:(fL v.eH (v.ak.map aD.oV)).2=0:=by simpa using h5
       unfold fL at h5 ⊢;split
       ·rename_i h7;rw[if_pos h7]at h5;exact absurd h5 h7
       ·rename_i h7;rw[if_neg h7]at h5;obtain⟨hT,_⟩:=Ku.of (Decidable.not_not.1 h7);obtain⟨h8,h9⟩:=uw hT _ _ _ h5;refine⟨by simpa using h8,fun x hx=>?_⟩;rcases h9 x hx with pV | pV
        ·cases pV
        ·exact pV
structure Hy(v:ax)(n:Int)(ls:List Int):Prop where
 len:ls.length=v.ak.length
 OX:∀x∈ls,0≤x
 oF:0<ls.length→iM ls ls.length=n
 iy:cm v n=(ml 0 ls,0)
 on:∀k,k<ls.length→(ml 0 ls).getD k default=iM ls k
theorem ju{v:ax}{n:Int}(h:(bu v n).2=0):Hy v n (bu v n).1:=by
 have Ff:cm v n=(ml 0 (bu v n).1,0):=by
  unfold cm;rw[if_neg (by rw[h];simp)]
 have key:yS (dD v n) n=false∧(dD v n).2=0∧(bu v n).1=(dD v n).1:=by
  unfold bu at h ⊢;split
  ·rename_i h1;rw[if_pos h1]at h;cases h
  ·rename_i h1;rw[if_neg h1]at h;split
   ·rename_i h2;rw[if_pos h2]at h;exact absurd h h2
   ·rename_i h2;exact⟨by simpa using h1,by simpa using h2,rfl⟩
 obtain⟨h1,h2,h3⟩:=key;obtain⟨h4,h5,h6⟩:=Ft h2;rw[h3]at Ff ⊢;refine⟨h5,fun x hx=>(h6 x hx).1,fun hl=>?_,Ff,fun k hk=>?_⟩
 ·unfold yS at h1;have e1:((dD v n).2==0)=true:=by rw[h2];rfl
  have e2:decide (((dD v n).1.length:Int)>0)=true:=decide_eq_true (by omega);rw[e1,e2]at h1;have h1:ub 0 (dD v n).1=n:=by simpa using h1
  have:=Fs (dD v n).1 0 h6 (by omega) (by omega);omega
 ·have:=Jt (dD v n).1 0 h6 (by omega) (by omega) k hk;omega
theorem rI(len c v:Int):∀(iy:List Int) (i j:Nat),j<iy.length→(cL len c v i iy)[j]? =some ⟨c,v,((i+j:Nat):Int),iy.getD j default,if j+1<iy.length then iy.getD (j+1) default else len⟩
 | [],i,j,h=>by simp at h
 | [o],i,0,h=>by simp[cL]
 | [o],i,j+1,h=>by simp at h
 | o::p::r,i,0,h=>by simp[cL]
 | o::p::r,i,j+1,h=>by
  have:=rI len c v (p::r) (i+1) j (by simpa using h);show(cL len c v (i+1) (p::r))[j]? =_;rw[this];congr 2
  ·congr 1;omega
  ·simp
def gT(c v:Nat)(ls:List Int)(j:Nat):cY:=⟨c,v,j,iM ls j,iM ls (j+1)⟩
theorem jY{v:ax}{n:Int}{ls:List Int}(h:Hy v n ls)(c j:Nat):cL n c j 0 (cm v n).1=(List.range v.ak.length).map (gT c j ls):=by
 rw[h.iy];apply List.ext_getElem?;intro k;have hl:(ml 0 ls).length=ls.length:=l7 _ _;by_cases hk:k<v.ak.length
 ·rw[rI _ _ _ _ _ _ (by rw[hl,h.len];exact hk),List.getElem?_map,List.getElem?_range hk];show some _=some _;congr 1;unfold gT;rw[hl,Nat.zero_add,h.on k (by rw[h.len];exact hk)];congr 1;split
  ·rename_i h2;exact h.on (k+1) h2
  ·rename_i h2;have e:k+1=ls.length:=by have:=h.len;omega
   rw[e,h.oF (by omega)]
 ·rw[List.getElem?_eq_none (by rw[mS,hl,h.len];omega),List.getElem?_eq_none (by simp;omega)]
def j9(len:Int)(c:Nat):Nat→List ax→List cY
 | _,[]=> []
 | j,v::r=>cL len c j 0 (cm v len).1++j9 len c (j+1) r
def kP(len:Int):Nat→List aI→List cY
 | _,[]=> []
 | k,c::r=>j9 len k 0 c.ai++kP len (k+1) r
theorem vM(len:Int)(c:Nat):∀(vs:List ax) (j:Nat) (acc:List cY),(∀v∈vs,(bu v len).2=0)→gj len c j vs acc=(acc++j9 len c j vs,0)
 | [],j,acc,h=>by simp[gj,j9]
 | v::r,j,acc,h=>by
  have hv:=ju (h v (by simp));unfold gj;split
  ·rename_i hp;have e0:v.ak.length=0:=by
    unfold ax.tY at hp;have:=of_decide_eq_false hp;omega
   have e1:cL len c j 0 (cm v len).1= []:=by rw[jY hv,e0];rfl
   rw[vM len c r (j+1) acc (fun x hx=>h x (by simp[hx]))];show _=(acc++(cL len c j 0 (cm v len).1++j9 len c (j+1) r),0);rw[e1,List.nil_append]
  ·rw[if_neg (by rw[hv.iy];simp),vM len c r (j+1) _ (fun x hx=>h x (by simp[hx])),List.append_assoc];all_goals rfl
theorem Bp(len:Int):∀(cs:List aI) (k:Nat) (acc:List cY),(∀c∈cs,∀v∈c.ai,(bu v len).2=0)→mT len k cs acc=(acc++kP len k cs,0)
 | [],j,acc,h=>by simp[mT,kP]
 | c::r,j,acc,h=>by
  have e:=vM len j c.ai 0 acc (h c (by simp));unfold mT;rw[e,if_neg (by simp),Bp len r (j+1) _ (fun x hx=>h x (by simp[hx])),List.append_assoc];all_goals rfl
theorem KT{m:aj}(hl:m.cI=0)(h:∀c∈m.Cells,∀v∈c.ai,(bu v m.len).2=0):cJ m=(kP m.len 0 m.Cells,0):=by
 unfold cJ;rw[if_neg (by rw[hl];simp),Bp m.len m.Cells 0 [] h,List.nil_append];rw[if_neg (by simp)]
theorem nw.dI{s:ae}(h:nw s):∀m∈s.aa,∀c∈m.Cells,∀v∈c.ai,(bu v m.len).2=0:=by
 intro m hm c hc v hv;obtain⟨i,hi,rfl⟩:=kN hm;obtain⟨k,hk,rfl⟩:=kN hc;obtain⟨j,hj,rfl⟩:=kN hv;exact h.r67 i k j hi hk hj
theorem nw.bH{s:ae}(h:nw s):∀m∈s.aa,cJ m=(kP m.len 0 m.Cells,0):=fun m hm=>KT (h.r5 m hm).1 (h.dI m hm)
theorem nw.vo{s:ae}(h:nw s){i c v:Nat}(hi:i<s.aa.length)(hc:c<(s.aa.getD i default).Cells.length)(hv:v<s.kx i c):Hy (s.vo i c v) (s.aa.getD i default).len (s.lens i c v):=
 ju (h.r67 i c v hi hc hv)
theorem vN{len:Int}{c:Nat}{x:cY} :∀ {vs:List ax} {j:Nat},(∀v∈vs,(bu v len).2=0)→x∈j9 len c j vs→ ∃a k,a<vs.length∧k<(vs.getD a default).ak.length∧x=gT c (j+a) (bu (vs.getD a default) len).1 k
 | [],j,h,hx=>by simp[j9]at hx
 | v::r,j,h,hx=>by
  rcases List.mem_append.1 hx with hx | hx
  ·rw[jY (ju (h v (by simp)))]at hx;obtain⟨k,hk,rfl⟩:=List.mem_map.1 hx;exact⟨0,k,by simp,by simpa using hk,rfl⟩
  ·obtain⟨a,k,h1,h2,h3⟩:=vN (vs:=r) (fun y hy=>h y (by simp[hy])) hx;exact⟨a+1,k,by simpa using h1,h2,by rw[show j+(a+1)=j+1+a by omega];exact h3⟩
theorem Bq{len:Int}{x:cY} :∀ {cs:List aI} {b:Nat},(∀c∈cs,∀v∈c.ai,(bu v len).2=0)→x∈kP len b cs→ ∃d a k,d<cs.length∧a<(cs.getD d default).ai.length∧k<((cs.getD d default).ai.getD a default).ak.length∧x=gT (b+d) a (bu ((cs.getD d default).ai.getD a default) len).1 k
 | [],j,h,hx=>by simp[kP]at hx
 | c::r,j,h,hx=>by
  rcases List.mem_append.1 hx with hx | hx
  ·obtain⟨a,k,h1,h2,h3⟩:=vN (h c (by simp)) hx;exact⟨0,a,k,by simp,h1,h2,by rw[h3];simp⟩
  ·obtain⟨d,a,k,h1,h2,h3,h4⟩:=Bq (cs:=r) (fun y hy=>h y (by simp[hy])) hx;exact⟨d+1,a,k,by simpa using h1,h2,h3,by rw[show j+(d+1)=j+1+d by omega];exact h4⟩
theorem nw.slot{s:ae}(h:nw s){m:aj}(hm:m∈s.aa){x:cY}(hx:x∈(cJ m).1):
  ∃c v k,c<m.Cells.length∧v<(m.Cells.getD c default).ai.length∧k<((m.Cells.getD c default).ai.getD v default).ak.length∧x=gT c v (bu ((m.Cells.getD c default).ai.getD v default) m.len).1 k∧
   Hy ((m.Cells.getD c default).ai.getD v default) m.len (bu ((m.Cells.getD c default).ai.getD v default) m.len).1:=by
 rw[h.bH m hm]at hx;obtain⟨c,v,k,h1,h2,h3,h4⟩:=Bq (h.dI m hm) hx;rw[Nat.zero_add]at h4;exact⟨c,v,k,h1,h2,h3,h4,ju (h.dI m hm _ (av h1) _ (av h2))⟩
theorem Br{len:Int}{c:Nat} :∀ {vs:List ax} {j:Nat},(∀v∈vs,(bu v len).2=0∧Wz v)→(j9 len c j vs).length≤20*vs.length
 | [],j,h=>Nat.le_refl _
 | v::r,j,h=>by
  have h1:=h v (by simp);have h2:=Br (c:=c) (vs:=r) (j:=j+1) (fun y hy=>h y (by simp[hy]));have h3:=h1.2.events;show(cL len c j 0 (cm v len).1++j9 len c (j+1) r).length≤_;rw[jY (ju h1.1),List.length_append,List.length_map,List.length_range,List.length_cons];omega
theorem Bs{len:Int} :∀ {cs:List aI} {b:Nat},(∀c∈cs,(∀v∈c.ai,(bu v len).2=0)∧YW c)→(kP len b cs).length≤60*cs.length
 | [],b,h=>Nat.le_refl _
 | c::r,b,h=>by
  have h1:=h c (by simp);have h2:=Bs (cs:=r) (b:=b+1) (fun y hy=>h y (by simp[hy]));have h3:=Br (c:=b) (vs:=c.ai) (j:=0) (fun v hv=>⟨h1.1 v hv,h1.2.all v hv⟩);have h4:=h1.2.dI;show(j9 len b 0 c.ai++kP len (b+1) r).length≤_;rw[List.length_append,List.length_cons];omega
open Go.Proofs
def gF(part k v:Int):aq:=⟨0,0,0,part,k,v,⟨0,0⟩,0⟩
def Hz(first:aq)(down:Int)(aC number:Nat)(on:List Int):Nat→List aj→mU×List aq→mU×List aq
 | _,[],s=>s
 | i,m::r,s=>
  let t:=cD ⟨first,down,m,on.getD i default,aC,number⟩ (cJ m).1 (s.1,s.2,false)
  Hz first down aC number on (i+1) r (if t.2.2=true then t.1 else none,t.2.1)
def ae.iV(s:ae)(part:Int):Int:=if s.Written=true then(s.ay.getD part.toNat default).aT.ct else 0
def mf(s:ae)(aC:Nat)(number:Nat)(out:List aq):List aq:=
 (Hz (gF (s.partOf aC).1 (s.partOf aC).2.1 number) (s.iV (s.partOf aC).1) aC number s.bf 0 s.aa (none,out)).2
def iN(s:ae):Nat→Nat→List aq→List aq
 | 0,_,out=>out
 | n+1,aC,out=>iN s n (aC+1) (mf s aC 1 (mf s aC 0 out))
def sJ(s:ae)(aC:Nat):Nat→Nat→List aq→List aq
 | 0,_,out=>out
 | n+1,v,out=>sJ s aC n (v+1) (mf s aC v out)
structure Ju(s:ae)(Bt:Nat):Prop where
 wf:s.wf
 parts:s.ay.length≤1000
 ep:s.aa.length≤10
 bG:s.bG=Bt
 ZK:Bt≤20
 part:∀aC:Nat,aC<Bt→(s.partOf aC).2.2=0∧0≤(s.partOf aC).1∧(s.partOf aC).1<s.ay.length
 wB:∀p∈s.ay,-1000000000≤p.aT.ct∧p.aT.ct≤1000000000
 small:∀m∈s.aa,m.wf∧vA m∧m.cI=0∧(cJ m).1.length≤500
 bf:s.bf.length=s.aa.length+1∧ ∀x∈s.bf,-1000000000000≤x∧x≤1000000000000
 bH:∀m∈s.aa,∀x∈(cJ m).1,∀first down du aC number,CY ⟨first,down,m,du,aC,number⟩ x
theorem zq(L:ql):∀(l:List cY) (s:mU×List aq×Bool),(∀x∈l,L.here x=true→(L.ev x).aE.length≤1000)→wX (vC s.1) s.2.1.length→
  wX (vC (cD L l s).1) (cD L l s).2.1.length∧s.2.1.length≤(cD L l s).2.1.length∧(cD L l s).2.1.length≤s.2.1.length+1000*l.length
 | [],s,h1,h2=>⟨h2,Nat.le_refl _,Nat.le_refl _⟩
 | x::r,s,h1,h2=>by
  show wX (vC (cD L r (dv L x s)).1) (cD L r (dv L x s)).2.1.length∧s.2.1.length≤(cD L r (dv L x s)).2.1.length∧(cD L r (dv L x s)).2.1.length≤s.2.1.length+1000*(r.length+1);have step:wX (vC (dv L x s).1) (dv L x s).2.1.length∧s.2.1.length≤(dv L x s).2.1.length∧(dv L x s).2.1.length≤s.2.1.length+1000:=by
   unfold dv;split
   ·rename_i hc;have:=CX ⟨L.first,L.down,(L.ev x).ID,L.du+x.On,L.du+x.zH,vC s.1⟩ (L.ev x).aE 0 ([],s.2.1) h2 (wX.nil _);have h3:=h1 x (by simp) hc;refine⟨this.1,this.2.1,Nat.le_trans this.2.2 (by simp;omega)⟩
   ·exact⟨h2,Nat.le_refl _,by omega⟩
  have ih:=zq L r (dv L x s) (fun y hy=>h1 y (by simp[hy])) step.1;exact⟨ih.1,by omega,by omega⟩
set_option maxHeartbeats 8000000 in
theorem VS(s:ae)(Bt:Nat)(hV:JJ 6 [.agg s.enc] [] (nB true) [])(hN:Ju s Bt):
  JJ 11 [.agg s.enc] [] (.dE [.p (.sl 9 ((wF (iN s Bt 0 [])).map aq.enc)),nI 0]) []:=by
 have fw:(1000:Nat)≤maxLen:=by decide
 refine XX.intro Tryz.func11 rfl rfl rfl rfl ?_;refine Or.inl ?_;refine⟨_,hV,?_⟩;refine ab (fun h=>by cases h) (fun _=>?_);refine Or.inl ?_;refine⟨_,NR s hN.wf (by have:=hN.ep;omega),?_⟩;refine Or.inl ?_;refine⟨_,vy s (by have:=hN.parts;omega),?_⟩;obtain⟨R,hR⟩:∃R,iN s Bt 0 []=R:=⟨_,rfl⟩
 rw[hR,hN.bG];have afy:=hN.ZK;refine⟨[1,4,5,21,22],[.own 1,.own 4],fun q S=>∃(k:Nat) (out:List aq),k≤Bt∧q=Bt-k∧iN s (Bt-k) k out=R∧out.length≤10000000*k∧
  S=St.mk' [(1,.ptr (.own 1) 0),(4,.ptr (.own 4) 0),(5,.p (.sl 1 (s.bf.map cB))),(21,nI Bt),(22,nI k)] [(.own 1,.pure 27 s.enc),(.own 4,ui out)],⟨_,0,[],by omega,rfl,hR,by simp,rfl⟩,?_⟩
 rintro q S ⟨k,out,hk,rfl,aw,uC,rfl⟩;refine ab (fun h=>?_) (fun h=>?_)
 ·have h:=of_decide_eq_true h;have b9:k<Bt:=by omega
  obtain⟨hp0,iH,kl⟩:=hN.part k b9;rw[show Bt-k=(Bt-k-1)+1 by omega]at aw;have aw:iN s (Bt-k-1) (k+1) (mf s k 1 (mf s k 0 out))=R:=aw;refine Or.inl ?_;refine⟨_,CZ s k (by have:=hN.parts;omega),?_⟩;obtain⟨pt,Pg⟩:∃x,x=(s.partOf k).1:=⟨_,rfl⟩
  obtain⟨kk,Er⟩:∃x,x=(s.partOf k).2.1:=⟨_,rfl⟩
  rw[←Pg]at iH kl ⊢;rw[←Er];have Y0: -1000000000≤s.iV pt∧s.iV pt≤1000000000:=by
   unfold ae.iV;split
   ·exact hN.wB _ (av (by omega))
   ·omega
  have aw:iN s (Bt-k-1) (k+1) (sJ s k 2 0 out)=R:=aw;have bW:=cZ cf.enc s.ay pt iH kl;obtain⟨dn,ZT⟩:∃x,x=s.iV pt:=⟨_,rfl⟩
  rw[←ZT]at Y0;refine ab (fun hw=>?_) (fun hw=>?_);have Y1:dn=(s.ay.getD pt.toNat default).aT.ct:=by
   have hw:s.Written=true:=hw;rw[ZT];unfold ae.iV;rw[if_pos hw]
  refine⟨_,bW,?_⟩
  rotate_left
  have Y1:dn=0:=by
   have hw:s.Written=false:=hw;rw[ZT];unfold ae.iV;rw[if_neg (by rw[hw];simp)]
  rotate_left
  all_goals
   refine⟨[1,4,5,6,7,8,10,21,22,41],[.own 1,.own 4],fun q S=>∃(v:Nat) (o:List aq),v≤2∧q=2-v∧sJ s k (2-v) v o=sJ s k 2 0 out∧o.length≤out.length+5000000*v∧
    S=St.mk' [(1,.ptr (.own 1) 0),(4,.ptr (.own 4) 0),(5,.p (.sl 1 (s.bf.map cB))),(6,nI k),(7,nI pt),(8,nI kk),(10,nI dn),(21,nI Bt),(22,nI k),(41,nI v)] [(.own 1,.pure 27 s.enc),(.own 4,ui o)],⟨_,0,out,by omega,rfl,rfl,by omega,by rw[Y1];rfl⟩,?_⟩
   rintro q S ⟨v,o,hv,rfl,jZ,vR,rfl⟩;refine ab (fun h=>?_) (fun h=>?_)
   ·have h:=of_decide_eq_true h;have w7:v<2:=by omega
    rw[show 2-v=(2-v-1)+1 by omega]at jZ;have jZ:sJ s k (2-v-1) (v+1) (mf s k v o)=sJ s k 2 0 out:=jZ;refine⟨_,al _ _,?_⟩;obtain⟨Z,hZ⟩:∃Z,Hz (gF pt kk v) dn k v s.bf 0 s.aa (none,o)=Z:=⟨_,rfl⟩
    have hZ2:mf s k v o=Z.2:=by
     rw[←hZ];unfold mf;rw[←Pg,←Er,←ZT]
    rw[hZ2]at jZ;refine⟨[1,4,5,6,7,8,10,11,12,21,22,41,52,53,54],[.own 1,.own 4,.own 50],fun q S=>∃(i:Nat) (hs:mU) (o2:List aq),i≤s.aa.length∧q=s.aa.length-i∧Hz (gF pt kk v) dn k v s.bf i (s.aa.drop i) (hs,o2)=Z∧wX (vC hs) o2.length∧o2.length≤o.length+500000*i∧
     S=St.mk' [(1,.ptr (.own 1) 0),(4,.ptr (.own 4) 0),(5,.p (.sl 1 (s.bf.map cB))),(6,nI k),(7,nI pt),(8,nI kk),(10,nI dn),(11,nI v),(12,.ptr (.own 50) 0),(21,nI Bt),(22,nI k),(41,nI v),(52,.p (.sl 22 (s.aa.map aj.enc))),(53,nI s.aa.length),(54,nI i)]
      [(.own 1,.pure 27 s.enc),(.own 4,ui o2),(.own 50,.mix 122 ([.ptr (.own 4) 0,X5 hs]++(gF pt kk v).enc.map .p++ [nI dn]))],⟨_,0,none,o,by omega,rfl,hZ,wX.nil _,by omega,rfl⟩,?_⟩
    rintro q S ⟨i,hs,o2,hi,rfl,tp,cq,hli,rfl⟩;refine ab (fun h=>?_) (fun h=>?_)
    ·have h:=of_decide_eq_true h;have mW:i<s.aa.length:=by omega
     have wW:=hN.ep;rw[aF mW]at tp;have cV:=av mW;obtain⟨m,hm⟩:∃m,m=s.aa.getD i default:=⟨_,rfl⟩
     rw[←hm]at tp cV;obtain⟨q1,q2,q3,q4⟩:=hN.small m cV;have j3:=hN.bf;have Sl:=j3.2 (s.bf.getD i default) (av (by omega));obtain⟨on,afz⟩:∃x,x=s.bf.getD i default:=⟨_,rfl⟩
     have tp:Hz (gF pt kk v) dn k v s.bf (i+1) (s.aa.drop (i+1)) (if(cD ⟨gF pt kk v,dn,m,s.bf.getD i default,k,v⟩ (cJ m).1 (hs,o2,false)).2.2=true then(cD ⟨gF pt kk v,dn,m,s.bf.getD i default,k,v⟩ (cJ m).1 (hs,o2,false)).1 else none,(cD ⟨gF pt kk v,dn,m,s.bf.getD i default,k,v⟩ (cJ m).1 (hs,o2,false)).2.1)=Z:=tp;have h33:=UI ⟨gF pt kk v,dn,m,s.bf.getD i default,k,v⟩ q1 q2 q3 Y0 Sl (fun x hx=>hN.bH m cV x hx _ _ _ _ _) (by show(cJ m).1.length≤100000;omega) hs o2 (by show o2.length+1000*(cJ m).1.length≤1000000000;omega) cq;have hlen:=zq ⟨gF pt kk v,dn,m,s.bf.getD i default,k,v⟩ (cJ m).1 (hs,o2,false) (fun x hx hc=>((hN.bH m cV x hx _ _ _ _ _).place hc).2.2.2.2) cq;obtain⟨t,ht⟩:∃t,t=cD ⟨gF pt kk v,dn,m,s.bf.getD i default,k,v⟩ (cJ m).1 (hs,o2,false):=⟨_,rfl⟩
     rw[←ht]at tp h33 hlen;have hX2:wX (vC (if t.2.2=true then t.1 else none)) t.2.1.length:=by
      split
      ·exact hlen.1
      ·exact wX.nil _
     obtain⟨X,hX⟩:∃X,X=(if t.2.2=true then t.1 else none):=⟨_,rfl⟩
     rw[←hX]at tp h33 hX2;refine⟨m.enc,by rw[hm];exact ao _ _ _ mW,?_⟩;refine⟨rfl,?_⟩;refine⟨rfl,?_⟩;refine⟨_,ao cB s.bf i (by omega),?_⟩;cases hs<;>cases X
     all_goals
      refine⟨_,_,h33,rfl,?_⟩;refine⟨_,wrap_i64 (by omega) (by omega),?_⟩;exact⟨s.aa.length-(i+1),by omega,i+1,_,_,by omega,rfl,tp,hX2,by have h9:=hlen.2.2;simp only at h9;omega,rfl⟩
    ·have h:=of_decide_eq_false h;obtain rfl:i=s.aa.length:=by omega
     rw[List.drop_length]at tp;have tp:(hs,o2)=Z:=tp;subst tp;have wW:=hN.ep;refine⟨_,wrap_i64 (by omega) (by omega),?_⟩;exact⟨2-(v+1),by omega,v+1,o2,by omega,rfl,jZ,by omega,rfl⟩
   ·have h:=of_decide_eq_false h;obtain rfl:v=2:=by omega
    have jZ:o=sJ s k 2 0 out:=jZ;rw[←jZ]at aw;refine⟨_,wrap_i64 (by omega) (by omega),?_⟩;exact⟨Bt-(k+1),by omega,k+1,o,by omega,rfl,aw,by omega,rfl⟩
 ·have h:=of_decide_eq_false h;obtain rfl:k=Bt:=by omega
  rw[Nat.sub_self]at aw;have aw:out=R:=aw;subst aw;refine Or.inl ?_;refine⟨rfl,?_⟩;refine⟨_,UF out (by omega),?_⟩;exact⟨rfl,rfl⟩
theorem rJ:∀(ms:List aj) (out:List Int) (i:Nat),out.length=i+1→(∀x∈out,0≤x∧x≤15482880*(i:Int))→
  (fv out i ms).length=i+1+ms.length∧ ∀x∈fv out i ms,0≤x∧x≤15482880*((i+ms.length:Nat):Int)
 | [],out,i,hl,h=>⟨hl,fun x hx=>by have:=h x hx;simpa using this⟩
 | m::r,out,i,hl,h=>by
  have hm:=m.uj;have hi:out.getD i default∈out:=av (by omega);have h0:=h _ hi;obtain⟨h1,h2⟩:=rJ r (out++ [out.getD i default+m.len]) (i+1) (by simp[hl]) (fun x hx=>by
   rcases List.mem_append.1 hx with hx | hx
   ·have:=h x hx;omega
   ·rw[List.mem_singleton]at hx;omega)
  show(fv (out++ [out.getD i default+m.len]) (i+1) r).length=_∧ ∀x∈fv (out++ [out.getD i default+m.len]) (i+1) r,_
  rw[List.length_cons];refine⟨by omega,fun x hx=>?_⟩;have:=h2 x hx;rw[show i+(r.length+1)=i+1+r.length by omega];exact this
theorem qX(s:ae)(hm:s.aa.length≤10):s.bf.length=s.aa.length+1∧ ∀x∈s.bf,0≤x∧x≤154828800:=by
 obtain⟨h1,h2⟩:=rJ s.aa [0] 0 rfl (by simp);refine⟨by unfold ae.bf;omega,fun x hx=>?_⟩;have:=h2 x hx;omega
theorem wM:∀(ps:List cf) (i st:Nat),(∀p∈ps,p.aL.length≤5)→st<zp ps→st≤1000000→
  ∃p k:Nat,ek i (st:Int) ps=((p:Int),(k:Int),0)∧iL i (st:Int) ps=((p:Int),(k:Int))∧i≤p∧p<i+ps.length∧k<(ps.getD (p-i) default).aL.length
 | [],i,st,h,hs,hb=>by simp[zp]at hs
 | x::r,i,st,h,hs,hb=>by
  unfold zp at hs;by_cases j3:st<x.aL.length
  ·have h0:((st:Int)<(x.aL.length:Int)):=by omega
   refine⟨i,st,?_,?_,Nat.le_refl _,by rw[List.length_cons];omega,by rw[Nat.sub_self];exact j3⟩
   ·unfold ek;rw[if_pos h0]
   ·unfold iL;rw[if_pos h0]
  ·have h0:¬((st:Int)<(x.aL.length:Int)):=by omega
   obtain⟨p,k,h1,h2,h3,h4,h5⟩:=wM r (i+1) (st-x.aL.length) (fun q hq=>h q (by simp[hq])) (by omega) (by omega);rw[show((st-x.aL.length:Nat):Int)=(st:Int)-x.aL.length by omega]at h1 h2;refine⟨p,k,?_,?_,by omega,by rw[List.length_cons];omega,?_⟩
   ·unfold ek;rw[if_neg h0,wrap_i64 (by omega) (by omega)];exact h1
   ·unfold iL;rw[if_neg h0,wrap_i64 (by omega) (by omega)];exact h2
   ·rw[show p-i=(p-(i+1))+1 by omega];exact h5
theorem ux:∀(ps:List cf) (i:Nat) (st:Int),(∀p∈ps,p.aL.length≤5)→(zp ps:Int)≤st→iO st→ek i st ps=(0,0,2)
 | [],i,st,h,hs,hb=>rfl
 | x::r,i,st,h,hs,hb=>by
  have iE:=hb.2;have hs:((x.aL.length+zp r:Nat):Int)≤st:=hs;unfold ek;rw[if_neg (by omega),wrap_i64 (by omega) (by omega)];exact ux r (i+1) _ (fun q hq=>h q (by simp[hq])) (by omega) ⟨by omega,by omega⟩
theorem wJ.part{s:ae}(h:wJ s){st:Nat}(hs:st<s.o5):∃p k:Nat,s.partOf st=((p:Int),(k:Int),0)∧s.owner st=((p:Int),(k:Int))∧p<s.ay.length∧k<(s.ay.getD p default).aL.length:=by
 have hn:=h.Hx;obtain⟨p,k,h1,h2,h3,h4,h5⟩:=wM s.ay 0 st h.bG hs (by omega);refine⟨p,k,?_,h2,by omega,by simpa using h5⟩;unfold ae.partOf;rw[if_neg (by omega)];exact h1
theorem wJ.OY{s:ae}(h:wJ s){st:Int}(hr:iO st)(hs:st<0∨s.bG≤st):(s.partOf st).2.2≠0:=by
 unfold ae.partOf;by_cases h0:st<0
 ·rw[if_pos h0];decide
 ·rw[if_neg h0,ux s.ay 0 st h.bG (by rw[h.o5]at hs;exact hs.resolve_left h0) hr];decide
structure Good(s:ae):Prop where
 wf:s.wf
 sm:wJ s
 vl:nw s
theorem Good.cells{s:ae}(h:Good s):∀m∈s.aa,m.Cells.length=s.o5:=fun m hm=>by
 have:=h.vl.r3 m hm;rw[h.sm.o5]at this;omega
theorem Good.VT{s:ae}(h:Good s):s.o5≤5:=by
 have h0:=h.vl.r1.1;rw[←h.cells _ (av h0)];exact(h.sm.all _ (av h0)).cells
theorem Good.OZ{s:ae}(h:Good s){m:aj}(hm:m∈s.aa):vA m:=by
 have:=h.sm.all m hm;exact⟨by have:=this.cells;omega,fun c hc=>by have:=(this.all c hc).dI;omega⟩
theorem Good.Fu{s:ae}(h:Good s){m:aj}(hm:m∈s.aa):(cJ m).1.length≤300:=by
 rw[h.vl.bH m hm];have h1:=Bs (len:=m.len) (cs:=m.Cells) (b:=0) (fun c hc=>⟨h.vl.dI m hm c hc,(h.sm.all m hm).all c hc⟩);have h2:=(h.sm.all m hm).cells;show(kP m.len 0 m.Cells).length≤300;omega
theorem Hy.Dx{v:ax}{n:Int}{ls:List Int}(h:Hy v n ls){k:Nat}(hn:0≤n∧n≤15482880)(hl:0<ls.length):0≤iM ls k∧iM ls k≤15482880:=by
 have h1:=qu (k:=k) h.OX;have h2:=wL (k:=k) h.OX;rw[h.oF hl]at h2;omega
theorem Good.VU{s:ae}(h:Good s){m:aj}(hm:m∈s.aa):∀x∈(cJ m).1,Hv m x:=fun x hx=>by
 obtain⟨c,v,k,h1,h2,h3,rfl,_⟩:=h.vl.slot hm hx;refine⟨⟨?_,?_⟩,⟨?_,?_⟩,⟨?_,?_⟩⟩<;>(unfold gT;simp)<;>first | omega | exact h1 | exact h2 | exact h3 | skip
theorem Good.VV{s:ae}(h:Good s){m:aj}(hm:m∈s.aa):∀x∈(cJ m).1,∀first down du aC number,CY ⟨first,down,m,du,aC,number⟩ x:=fun x hx first down du aC number=>by
 obtain⟨c,v,k,h1,h2,h3,rfl,hv⟩:=h.vl.slot hm hx;have hl:=m.uj;have mP:0<(bu ((m.Cells.getD c default).ai.getD v default) m.len).1.length:=by rw[hv.len];omega
 have e1:=hv.Dx (k:=k) hl mP;have e2:=hv.Dx (k:=k+1) hl mP;refine⟨⟨by show-1000000000000≤iM _ _;omega,by show iM _ _≤1000000000000;omega⟩,⟨by show-1000000000000≤iM _ _;omega,by show iM _ _≤1000000000000;omega⟩,fun hh=>?_⟩;unfold ql.here gT at hh;rw[aR,Bool.and_eq_true]at hh;have a1:(c:Int)=(aC:Int):=by simpa using hh.1
 have a2:(v:Int)=(number:Int):=by simpa using hh.2
 have a1:c=aC:=by omega
 have a2:v=number:=by omega
 subst a1 a2;refine⟨h1,h2,by show 0≤(k:Int);omega,by show(k:Int)<_;exact Int.ofNat_lt.2 h3,?_⟩;have:=(((h.sm.all m hm).all _ (av h1)).all _ (av h2)).all _ (av h3);have:=this.eF;show((((m.Cells.getD c default).ai.getD v default).ak).getD ((k:Int)).toNat default).aE.length≤1000;rw[Int.toNat_natCast];omega
theorem Good.wB{s:ae}(h:Good s):∀p∈s.ay,-140≤p.aT.ct∧p.aT.ct≤140:=fun p hp=>by
 have:=(h.vl.r1.2.1 p hp).2.2;unfold cH.ok at this;simp only[Bool.and_eq_true,decide_eq_true_eq]at this;omega
theorem Good.R4{s:ae}(h:Good s):Ju s s.o5 where
 wf:=h.wf
 parts:=by have:=h.sm.parts;omega
 ep:=h.sm.kM
 bG:=h.sm.o5
 ZK:=h.sm.Hx
 part:=fun st j3=>by
  obtain⟨p,k,h1,_,h3,_⟩:=h.sm.part j3;rw[h1];exact⟨rfl,by show 0≤(p:Int);omega,by show(p:Int)<_;omega⟩
 wB:=fun p hp=>by have:=h.wB p hp;omega
 small:=fun m hm=>⟨h.wf.aa.2 m hm,h.OZ hm,(h.vl.r5 m hm).1,by have:=h.Fu hm;omega⟩
 bf:=by
  obtain⟨h1,h2⟩:=qX s h.sm.kM;exact⟨h1,fun x hx=>by have:=h2 x hx;omega⟩
 bH:=fun m hm=>h.VV hm
theorem Good.nIn{s:ae}(h:Good s):Yg s s.o5 where
 wf:=h.wf
 parts:=by have:=h.sm.parts;omega
 ep:=h.sm.kM
 bf:=(qX s h.sm.kM).1
 ZK:=by have:=h.VT;omega
 cells:=fun i hi=>h.cells _ (av hi)
 dI:=fun i c hi hc=>by
  rw[←h.cells _ (av hi)]at hc;have:=(h.sm.YX hi hc).dI;rw[oy];omega
 events:=fun i c v hi hc hv=>by
  rw[←h.cells _ (av hi)]at hc;have:=(h.sm.VR hi hc hv).events;omega
 eF:=fun i c v k hi hc hv hk=>by
  rw[←h.cells _ (av hi)]at hc;have:=(h.sm.eve ⟨hi,hc,hv,hk⟩).eF;omega
 owner:=fun c hc=>by
  obtain⟨p,k,_,h2,h3,_⟩:=h.sm.part hc;rw[h2];exact⟨by show 0≤(p:Int);omega,by show(p:Int)<_;omega⟩
theorem zr{n:Int}(h:ef n=false):fy n=0:=by unfold fy;rw[h];rfl
theorem Good.Y2{s:ae}(h:Good s){st p k:Nat}(j3:st<s.o5)(h1:s.partOf st=((p:Int),(k:Int),0))(h2:s.owner st=((p:Int),(k:Int)))(h3:p<s.ay.length)(h4:k<(s.ay.getD p default).aL.length):NT s st p k where
 wf:=h.wf
 parts:=by have:=h.sm.parts;omega
 ep:=by have:=h.sm.kM;omega
 partOf:=h1
 owner:=h2
 bG:=by rw[h.sm.o5];omega
 hp:=h3
 hk:=h4
 NU:=zr (h.vl.r4.1 _ (av h3) _ (av h4))
 cells:=fun m hm=>by rw[h.cells m hm];exact j3
 NV:=fun m hm x hx=>by
  have:=h.vl.r4.2 m hm _ (av (by rw[h.cells m hm];exact j3)) x hx;exact⟨zr this.1,this.2⟩
 trans:=fun hw m hm=>(h.vl.r5 m hm).2 hw _ (av h3)
theorem Good.VW{s:ae}(h:Good s){i st:Nat}(hi:i<s.aa.length)(h0:0<i)(j3:st<s.o5):Hj s i st where
 parts:=by have:=h.sm.parts;omega
 pos:=h0
 hi:=hi
 abt:=by have:=h.sm.kM;omega
 bG:=by rw[h.sm.o5];omega
 cell:=by rw[h.cells _ (av (by omega))];exact j3
 abu:=by rw[h.cells _ (av (by omega))];have:=h.VT;omega
 dI:=by
  have:=(h.sm.YX (i:=i-1) (k:=st) (by omega) (by rw[h.cells _ (av (by omega))];exact j3)).dI;omega
 eF:=fun v hv=>by
  have hc:=h.sm.YX (i:=i-1) (k:=st) (by omega) (by rw[h.cells _ (av (by omega))];exact j3);have:=hc.all v hv;have he:=this.events;refine⟨by omega,?_⟩;unfold dk;split
  ·exact Nat.zero_le _
  ·have:=(this.all _ (av (k:=v.ak.length-1) (by omega))).eF;omega
end Go.Hm
