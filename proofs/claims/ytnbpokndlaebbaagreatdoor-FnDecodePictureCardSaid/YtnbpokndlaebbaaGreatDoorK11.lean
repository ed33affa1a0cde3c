import Derived.Test.YtnbpokndlaebbaaGreatDoorK10
import Derived.LaidEql
import Derived.Stop.Asserts
import Derived.RowKitTokens
import Derived.Conc.WgGenN3
set_option maxRecDepth 100000
set_option maxHeartbeats 8000000
set_option linter.all false
open Go.Value renaming int->U,slice->Y,bool->ci,agg->bi,pointer->d9,tuple->em,iface->gc
open Go.IntKind renaming i64->O
open Go.Obj renaming cells->ap
open Go.Ending renaming returned->dl
open Array renaming getElem?_eq_getElem->aik,getElem?_push_lt->aiM,getElem?_setIfInBounds_ne->ahT,getElem?_setIfInBounds_self_of_lt->aiv
open Bool renaming false->Ba,true->AT
open Go renaming Addr->aic,Calls->ahR,Event->aiK,Program->OF,TypeId->SL,Value->AS,World->rl,bodyPost_ret->ahX,run_underlying->aky,sameAddr->aja
open Go.Extern.ReflectliteType renaming method->akC,typeOf->akB
open Go.Instr renaming typeAssert->aiL
open Go.Sem renaming run->aiQ,runT->akd,run_bind->aih
open Go.World renaming cell?->aiu,frozen?->ahV,setCell->akI,shape?->ajh
open Option renaming none->ns,some->an
namespace Go.Proofs
abbrev jR:=@Option.map_eq_some_iff
def uI{p:Prop}(h:p:=by simp[results,Tryz.results53,go_sem]):p:=h
def Dl{p:Prop}(h:p:=by go_wp2;refine bodyPost_ret (v:=em #[Y none 0 0,ci false]) uI rfl ?_;rw[ry.out];exact zf rfl q1):p:=h
def Ki{p:Prop}(h:p:=by clear h1 hm;go_enter Gz.gf func53,ntmps53;go_wp2;refine bodyPost_ret (v:=em #[Y none 0 0,ci false]) uI rfl ?_;exact zf rfl (Q.refl _)):p:=h
abbrev eO:=@aik
abbrev jv:=@Array.mem_append
end Go.Proofs
namespace Go.Proofs.Q0
open Go.Proofs.Tryz
variable{a b:aic}{w w':rl}{P:OF}{n B:Nat}{A:Option aic}{ls:List (List Int)}
section
open Go.RowKit Go.WideShapes Go.ChangeShapes Go.Extern.Stop Go.Stop Go.Extern
def dD(w:rl)(a:aic):Prop:=∃o,w.heap[a.block]?=an o/\(∀x y,o≠.view x y)/\∀cs t f,o≠ap cs t f
def dD.q(h:dD w a)(q:Q w w'):dD w' a:=by obtain⟨o,h1,c⟩:=h;exact⟨o,(q.block _ (bU.1 h1).1).trans h1,c⟩
def dD.plain(h:dD w a):w.frozen? a=Ba/\w.shape? a.block=ns:=by obtain⟨o,h1,_,c⟩:=h;unfold ahV ajh;rw[h1];cases o<;>first|exact absurd rfl (c _ _ _)|exact⟨rfl,rfl⟩
def dD.noView(h:dD w a):(noView a).run P w=.ok () w:=by
 have s1:=h.plain.2;obtain⟨o,h1,v1,_⟩:=h;have g:(getObj a.block).run P w=.ok o w:=by simp[getObj,aiQ,h1]
 cases o<;>first|exact absurd rfl (v1 _ _)|simp[Go.noView,viewAt,s1,g]
def Xh(f:dD w a)(g:dD w b):(aja a b).run P w=.ok (a==b) w:=by
 by_cases c:a.block=b.block
 ·simp[aja,c]
 ·have d:(a==b)=Ba:=by rw[beq_eq_false_iff_ne];intro e;exact c om
  rw[d];obtain⟨f1,s1⟩:=f.plain;obtain⟨f2,s2⟩:=g.plain;have h:=f.noView (P:=P);have i:=g.noView (P:=P);simp[aja,c,f1,f2,s1,s2,h,i,mayBeOne,stringish]
def YG(m:dD w a)(o:dD w b){g f l:SL}{p:Array (String×SL)}{i j:TypeInfo}(hi:P.underlying g=an (.interface p))(q:P.underlying f=an (.pointer l))(c:P.info? f=an i)(e:i.comparable=AT)(h:P.info? l=an j)(k:j.size≠0):
  (binOp .eql g (gc f (d9 (an a))) (gc f (d9 (an b)))).run P w=.ok (ci (a==b)) w:=by
 have he:∀d:Nat,(Op.equalIn (d+2) g (gc f (d9 (an a))) (gc f (d9 (an b)))).run P w=.ok (a==b) w:=λd=>by have r:=Xh (P:=P) m o;simp[Op.equalIn,aky hi,aky q,typeInfo,c,e,sizeOf,h,k,samePointer,r]
 simp only[binOp];simp[Op.equal,Op.maxDepth,he 9998]
def ad7:(Gz.prog.info? 234).map (·.comparable)=an AT:=aF
def ad8:(Gz.prog.info? 260).map (·.size)=an 1:=aF
def ad9(d:dD w a)(e:dD w b):(binOp .eql 120 (gc 234 (d9 (an a))) (gc 234 (d9 (an b)))).run Gz.prog w=.ok (ci (a==b)) w:=by obtain⟨i,hi,c⟩:=jR.1 ad7;obtain⟨j,f,g⟩:=jR.1 ad8;exact YG d e (Gz.gu underlying120) (Gz.gu underlying234) hi c f aa
def abb(v:AS)(w:rl):(akB #[gc 234 v]).run Gz.prog w=.ok (gc 202 (bi #[d9 (an ⟨3,234,ns⟩)])) w:=aF
def Xi(w:rl):((akC λt=>do Rtype.noPackHeld "Comparable" t;Functor.map (λa=>Value.bool a.comparable) (typeInfo t)) #[bi #[d9 (an ⟨3,234,ns⟩)]]).run Gz.prog w=.ok (ci AT) w:=aj
def V1(v:AS)(w:rl):(Go.method 371 202 v "Comparable").run Gz.prog w=.ok (207,v) w:=aF
def aeW(v:AS)(c:SL)(w:rl):(aiL (gc 234 v) c 204 AT).run Gz.prog w=.ok (em #[.nilIface,ci Ba]) w:=run_typeAssert_lacksB (Gz.gu underlying204) aj aj v c w
def ZO(v:AS)(c:SL)(w:rl):(aiL (gc 234 v) c 207 AT).run Gz.prog w=.ok (em #[.nilIface,ci Ba]) w:=run_typeAssert_lacksB (Gz.gu underlying207) aj aj v c w
def YH(v:AS)(c:SL)(w:rl):(aiL (gc 234 v) c 209 AT).run Gz.prog w=.ok (em #[.nilIface,ci Ba]) w:=run_typeAssert_lacksB (Gz.gu underlying209) aj aj v c w
def abc(d:dD w a)(f:dD w b):
  ahR Gz.prog 116 #[gc 234 (d9 (an a)),gc 234 (d9 (an b)),ci AT] w λe w'=>e=dl (ci (a==b))/\w'=w:=by
 have c:=ad9 d f;have j:=aeW;have k:=ZO;have l:=YH;obtain⟨t,g⟩:∃t,(a==b)=t:=⟨_,rfl⟩;rw[g] at c⊢;go_enter Gz.gf func116,ntmps116;go_wp2;go_loopw[0] (λh i=>i=w/\h=gc 234 (d9 (an a))) (λ_ _=>0)
 case atStart=>exact⟨rfl,rfl⟩
 case round=>cases t with|true=>go_wp2;go_ret;exact⟨rfl,rfl⟩|false=>go_wp2;go_ret;exact⟨rfl,rfl⟩
def Fb(d:dD w a)(f:dD w b):
  ahR Gz.prog 84 #[gc 234 (d9 (an a)),gc 234 (d9 (an b))] w λe w'=>e=dl (ci (a==b))/\w'=w:=by
 have g:=@run_callFunc_extern Gz.prog 115 _ akB (Gz.gf func115) aj aj aj aj;have h:=@run_callFunc_extern Gz.prog 207 _ (akC λt=>do Rtype.noPackHeld "Comparable" t;pure (ci (<-typeInfo t).comparable)) (Gz.gf func207) aj aj aj aj;have i:=abb;have j:=Xi;have k:=V1;have c:=abc d f;go_enter Gz.gf func84,ntmps84;go_wp2_with(first|(go_at_call 116;refine c.mono ?_;rintro e w'⟨rfl,rfl⟩)|go_in);go_ret;exact⟨rfl,rfl⟩
def Mv(b:aic):
  ahR Gz.prog 84 #[.nilIface,gc 234 (d9 (an b))] w λe w'=>e=dl (ci Ba)/\w'=w:=by
 have c:=run_eql_iface_nil_left (P:=Gz.prog) w 234 (d9 (an b)) (Gz.gu underlying120);go_enter Gz.gf func84,ntmps84;go_wp2;go_ret;exact⟨rfl,rfl⟩
end
section
open Go.RowKit Go.WideShapes Go.ChangeShapes
def fh(data:List Int)(n:Int)(be:Bool):Option (List Int):=
 if 1<=n/\n<=4 then
  match(eP be n.toNat (eJ data,0)).1 with
  |none=>ns
  |some xs=>
   match dO be xs n.toNat with
   |some c=>if strOfNums c=strOfNums data then an xs else ns
   |none=>ns
 else ns
def acV{data:List Int}(n:Int)(be:Bool)(c:bytes data):fh data n be=Bp data n be:=by
 unfold fh Bp;split
 ·rename_i j;cases d:(eP be n.toNat (eJ data,0)).1 with
  |none=>rfl
  |some xs=>
   dsimp only;have f:=Ea be _ _ d;cases hq:dO be xs n.toNat with
   |none=>rw[if_neg λh=>by cases h]
   |some g=>
    dsimp only;have i:=Ec f aa aa hq;rw[QD c];by_cases h:g=data
    ·simp_all
    ·rw[if_neg λe=>h (Oh i c e),if_neg λe=>h mw]
 ·rfl
def acW(w:rl):(binOp .eql 22 (Y ns 0 0) (Y ns 0 0)).run Gz.prog w=.ok (ci AT) w:=aF
def acX(g:aic)(n c:Nat)(w:rl):(binOp .eql 22 (Y (an g) n c) (Y ns 0 0)).run Gz.prog w=.ok (ci Ba) w:=aF
def Fc(R:Option (List Int))(n:Nat)(w:rl)(e:Ending)(w':rl):Prop:=
  (match R with
   |an L=>∃v,e=dl (em #[v,ci AT])∧az 100 71 w' w.heap.size v n L
   |ns=>e=dl (em #[Y ns 0 0,ci Ba]))∧Q w w'
def zf{e:Ending}(he:e=dl (em #[Y ns 0 0,ci Ba]))(q:Q w w'):Fc ns n w e w':=⟨he,q⟩
def Mw(c:Nat){xs:List Int}(many:Int)(be:Bool){h i:aic}(hx:bC w B A xs)(hn:xs.length=n)(hc:n<=c/\c<=maxLen)(K:B<=w.heap.size)(he:gQ w h i B)(k1:dD w h)(k2:dD w i):
  ahR Gz.prog 53 #[Y A n c,U O many,ci be] w (Fc (fh xs many be) many.toNat w):=by
 obtain⟨R,o⟩:∃z,fh xs many be=z:=⟨_,rfl⟩;rw[o];unfold fh at o;by_cases hm:1<=many/\many<=4
 ·rw[if_pos hm] at o;obtain⟨N,rfl⟩:∃N:Nat,many=(N:Int):=⟨many.toNat,aa⟩;rw[Int.toNat_natCast] at o⊢;obtain⟨m1,m4⟩:=hm;have d1:decide ((N:Int)<1)=Ba:=decide_eq_false aa;have d2:decide ((4:Int)<(N:Int))=Ba:=decide_eq_false aa;have C:=ag (Zw N be hx hn hc K he aa);have D:=ag o;have HX:=ag hx;have Fk:=ag hn;have HE:=ag he;have M:=ag k1;have Q:=ag k2;clear o hx hn he k1 k2;go_enter Gz.gf func53,ntmps53;go_wp2;refine C.out.mono ?_;rintro e w1⟨hP,q1⟩;clear C;have p:∀r,(eP be N (eJ xs,0)).1=an r->r.length=N*71:=λr=>Ea be N (eJ xs,0);cases hs:eP be N (eJ xs,0) with
  |mk S k=>
   rw[hs] at hP;have d:=D.out;rw[hs] at d p;clear D hs;have m:=(HE.out.q q1 K).e1;have s:=(HE.out.q q1 K).e2;have x:=M.out.q q1;have y:=Q.out.q q1;cases S with
   |none=>
    obtain⟨hk,rfl⟩:=hP;have ry:Hid (R=ns):=d.symm;by_cases h1:k=1
    ·rw[h1];have u:=Fb x x;rw[beq_self_eq_true] at u;have HI:=ag u;have ev:kT h i 1=gc 234 (d9 (an h)):=rfl;rw[ev] at m⊢;clear u ev d x y M Q;go_wp2;refine HI.out.mono ?_;rintro e wi⟨rfl,rfl⟩;exact Dl
    ·have ev:∀j,j≠0->j≠1->kT h i j=gc 234 (d9 (an i)):=λj h0 h1=>by
      rcases j with _|_|j
      ·exact absurd rfl h0
      ·exact absurd rfl h1
      ·rfl
     rw[ev k hk h1];rw[ev 2 aw aw] at s;rw[show kT h i 1=gc 234 (d9 (an h)) from rfl] at m;have u:=ag (Fb y x);have hJ:=Fb y y;rw[beq_self_eq_true] at hJ;have HJ:=ag hJ;obtain⟨t,ht⟩:∃t,(i==h)=t:=⟨_,rfl⟩;rw[ht] at u;clear hJ ev d x y M Q ht;cases t with
     |true=>go_wp2;refine u.out.mono ?_;rintro e wi⟨rfl,rfl⟩;exact Dl
     |false=>go_wp2;refine u.out.mono ?_;rintro e wi⟨rfl,rfl⟩;go_wp2;refine HJ.out.mono ?_;rintro e wi⟨rfl,rfl⟩;exact Dl
   |some L=>
    obtain⟨v,rfl,T⟩:=hP;dsimp only at d;have hLl:=p L rfl;obtain⟨g,cg,rfl⟩:=T.iP aa;rw[show kT h i 1=gc 234 (d9 (an h)) from rfl] at m;rw[show kT h i 2=gc 234 (d9 (an i)) from rfl] at s;have E:=ag (Mv (w:=w1) h);have F:=ag (Mv (w:=w1) i);have G:=ag (Xf be T aa aa);have O1:=ag T;have H:=ag d;clear T d p x y M Q;go_wp2;refine E.out.mono ?_;rintro e wi⟨rfl,rfl⟩;go_wp2;refine F.out.mono ?_;rintro e wi⟨rfl,rfl⟩;go_wp2;refine G.out.mono ?_;rintro e w2⟨v2,rfl,I,l,q2⟩;have V:=q1.trans q2;have O3:=ag (O1.out.q q2);have X3:=ag (HX.out.q V K);clear G E F m s q1;cases hq:dO be L N with
    |none=>have hv:=l hq;subst hv;have d:=H.out;rw[hq] at d;have ry:Hid (R=ns):=d.symm;clear hq d I l;have en:=acW;go_wp2;refine ahX (v:=em #[Y ns 0 0,ci Ba]) uI rfl ?_;rw[ry.out];exact zf rfl V
    |some W=>
     rw[hq,Option.getD_some] at I;have d:=H.out;rw[hq] at d;dsimp only at d;have J:W≠[]:=λe=>by rw[e] at hq;exact acH hq
     have hyl:0<W.length:=List.length_pos_iff.2 J;rcases I.dC with⟨_,h0⟩|⟨g2,c2,rfl,_⟩
     ·omega
     have X:=ag (Yy W.length c2 c I.rd rfl X3.out Fk.out);clear hq l I J;have en:=acX;by_cases f:strOfNums W=strOfNums xs
     ·rw[if_pos f] at d;have ry:Hid (R=an L):=d.symm;rw[decide_eq_true f] at X;clear d f;go_wp2;refine X.out.mono ?_;rintro e w4⟨rfl,Z⟩;go_wp2;refine ahX (v:=em #[Y (an ⟨g,0,ns⟩) N cg,ci AT]) uI rfl ?_;rw[ry.out];exact⟨⟨_,rfl,O3.out.q Z⟩,V.trans Z⟩
     ·rw[if_neg f] at d;have ry:Hid (R=ns):=d.symm;rw[decide_eq_false f] at X;clear d f;go_wp2;refine X.out.mono ?_;rintro e w4⟨rfl,Z⟩;go_wp2;refine ahX (v:=em #[Y ns 0 0,ci Ba]) uI rfl ?_;rw[ry.out];exact zf rfl (V.trans Z)
 ·rw[if_neg hm] at o;subst o;by_cases h1:many<1
  ·have d1:decide (many<1)=AT:=decide_eq_true h1;exact Ki
  ·have d1:decide (many<1)=Ba:=decide_eq_false h1;have d2:decide (4<many)=AT:=decide_eq_true aa;exact Ki
end
section
open Go.RowKit Go.WideShapes Go.ChangeShapes
abbrev aS(ls:List (List Int))(i:Nat):List Int:=ls[i]?.getD []
def eF(w:rl)(B:Nat)(A:Option aic)(ls:List (List Int)):Prop:=
 0<ls.length->∃b o,A=an ⟨b,o,ns⟩/\b<B/\∀i,i<ls.length->∃d c,w.cell? ⟨b,o+i,ns⟩=an (Y d (aS ls i).length c)/\bC w B d (aS ls i)/\(aS ls i).length<=c/\c<=maxLen
def eF.bK(h:eF w B A ls)(c:∀b o,b<B->w'.cell? ⟨b,o,ns⟩=w.cell? ⟨b,o,ns⟩):eF w' B A ls:=λe=>by obtain⟨b,o,rfl,d,hc⟩:=h e;refine⟨b,o,rfl,d,λi hi=>?_⟩;obtain⟨f,g,h1,j,k⟩:=hc i hi;exact⟨f,g,(c b _ d).trans h1,j.bK c,k⟩
def eF.q(h:eF w B A ls)(hq:Q w w')(c:B<=w.heap.size):eF w' B A ls:=h.bK λb o d=>hq.cell b o aa
def eF.more{B':Nat}(h:eF w B A ls)(c:B<=B'):eF w B' A ls:=λd=>by obtain⟨b,o,rfl,k,hc⟩:=h d;refine⟨b,o,rfl,aa,λi hi=>?_⟩;obtain⟨e,f,h1,g,j⟩:=hc i hi;exact⟨e,f,h1,g.more c,j⟩
def eF.aq{S:List Nat}(h:eF w B A ls)(k:al S w w')(d:B<=w.heap.size)(c:∀g,g∈S->B<=g):eF w' B A ls:=
 h.bK λb o f=>nu k aa (λe=>by have:=c b e;omega)
structure ee(w:rl)(lo hi:Nat)(v:AS)(ls:List (List Int))(vs:List AS):Prop where
 len:vs.length=ls.length
 row:w.ownsRow lo 22 1 v ls.length vs
 top:∀s,v.ownBlock=an s->s<hi
 el:∀i,i<ls.length->aK w lo (vs[i]?.getD undef) (aS ls i).length (aS ls i)
 eh:∀i s,i<ls.length->(vs[i]?.getD undef).ownBlock=an s->s<hi/\v.ownBlock≠an s
 ne:∀i j s,i<j->j<ls.length->(vs[i]?.getD undef).ownBlock=an s->(vs[j]?.getD undef).ownBlock≠an s
section
variable{w w':rl}{lo hi:Nat}{v:AS}{ls:List (List Int)}{vs:List AS}
theorem Oj(o:Option Nat):o=ns\/o≠ns:=by grind
def ee.q(h:ee w lo hi v ls vs)(q:Q w w'):ee w' lo hi v ls vs:=
 ⟨h.len,h.row.kept (row:=ns) ⟨q.os,q.tape,q.output,q.size,λk c _=>q.block k c⟩ (Oj _),h.top,λi hi=>(h.el i hi).q q,h.eh,h.ne⟩
def ee.aq{S:List Nat}(h:ee w lo hi v ls vs)(k:al S w w')(hS:∀g,g∈S->hi<=g\/g<lo):ee w' lo hi v ls vs:=by
 have c:∀{e:SL}{u:AS}{n:Nat}{us:List AS},w.ownsRow lo e 1 u n us->(∀s,u.ownBlock=an s->s<hi)->w'.ownsRow lo e 1 u n us:=λ{e u n us} h1 l=>by
  refine⟨h1.1,?_⟩;rcases h1.2 with p|⟨g,d,f,rfl,m,j,r⟩
  ·simp_all
  ·refine .inr ⟨g,d,f,rfl,m,(k.block g (bU.1 j).1 λe=>?_).trans j,r⟩;have:=l g rfl;have:=hS g e;omega
 exact⟨h.len,c h.row h.top,h.top,λi hi=>⟨(h.el i hi).1,c (h.el i hi).2 λs o=>(h.eh i s hi o).1⟩,h.eh,h.ne⟩
def ee.rd(h:ee w lo hi v ls vs){c:Nat}(l:v=Y A n c)(s:hi<=w.heap.size):eF w w.heap.size A ls:=λm=>by
 subst l;obtain⟨g,o,p,t,q⟩:=h.row.form m;injection p with h1 r u;subst h1 r;refine⟨g,0,rfl,q,λi hi=>?_⟩;have hc:=h.row.cells (g:=g) rfl i;have he:=h.el i hi;obtain⟨j,k,hu⟩:=he.form
 have d:vs[i]?=an (Y j (aS ls i).length k):=by
  have:i<vs.length:=by rw[h.len];exact hi
  rw[List.getElem?_eq_getElem this] at hu⊢;simpa using hu
 rw[hu] at he;refine⟨j,k,?_,he.rd,?_⟩
 ·have f:=hc _ d;by_cases h0:i=0
  ·subst h0;simpa[Addr.add] using f
  ·simpa[Addr.add,h0] using f
 ·rcases he.dC with⟨e,h0⟩|⟨_,_,e,_,_,f,x⟩
  ·simp_all
  ·simp_all
theorem ee.form(h:ee w lo hi v ls vs):∃A c,v=Y A ls.length c/\ls.length<=c/\c<=maxLen:=by
 rcases h.row.2 with⟨e,h0⟩|⟨g,d,f,e,_,_,h1,i,_⟩
 ·grind
 ·grind
end
end
section
open Go.RowKit
def Xj{xs c:List Int}{k:Nat}(d:k<xs.length)(e:k<c.length)(h:xs.take k=c.take k)(he:xs[k]?.getD 0=c[k]?.getD 0):xs.take (k+1)=c.take (k+1):=by rw[Lu d,Lu e,h,he]
end
section
open Go.RowKit Go.WideShapes Go.ChangeShapes
def abd{vs:List AS}{k:Nat}(h:vs.length=k)(c:k<n)(u:AS):(vs++List.replicate (n-k) (Value.slice ns 0 0)).set k u=(vs++[u])++List.replicate (n-(k+1)) (Value.slice ns 0 0):=by rw[List.set_append_right _ _ aa,h,Nat.sub_self,show n-k=(n-(k+1))+1 by omega,List.replicate_succ,List.set_cons_zero,List.append_assoc];rfl
theorem Ok(vs:List AS)(u:AS)(i:Nat)(h:i<vs.length):(vs++[u])[i]?.getD undef=vs[i]?.getD undef:=by grind
def Ol(vs:List AS)(u:AS):(vs++[u])[vs.length]?.getD undef=u:=my
end
end Go.Proofs.Q0
namespace Go.Proofs
open Go.Proofs.Tryz
abbrev Tryz.link:Go.Conc.Lib.WgLink:={add:=50,done:=52,wait:=54,relMerge:=70,disable:=71,enable:=72,inBubble:=73,associate:=74,fatal:=75,uOr:=76,uAdd:=77,raceRead:=78,uLoad:=79,uStore:=80,disassociate:=81,semrelease:=82,acquire:=87,isAssociated:=88,uCas:=89,raceWrite:=90,semacquire:=91,orU64:=109,addU64:=110,loadU64:=111,storeU64:=112,casU64:=120,tWgP:=107,tUP:=109,tAssoc:=110,tWg:=84,tAU:=81,tU64:=79,tUint:=74,tU32:=82,tPU32:=114,tPAU:=150,tPU64:=152,tNoCopy:=76,tANoCopy:=77,tAlign64:=78}
def Tryz.we:Go.Conc.Lib.WgLib Tryz.prog Tryz.link:=
 ⟨func50,func52,func54,func70,func71,func72,func73,func74,func75,func76,func77,func78,func79,func80,func81,func82,func87,func88,func89,func90,func91,func109,func110,func111,func112,func120,underlying107,runUnderlying107,sizeOf107,isAgg107,zeroValue107,underlying109,runUnderlying109,sizeOf109,isAgg109,zeroValue109,underlying110,runUnderlying110,sizeOf110,isAgg110,zeroValue110,underlying84,runUnderlying84,sizeOf84,isAgg84,zeroValue84,underlying81,runUnderlying81,sizeOf81,isAgg81,zeroValue81,underlying79,runUnderlying79,sizeOf79,isAgg79,zeroValue79,underlying74,runUnderlying74,sizeOf74,isAgg74,zeroValue74,underlying82,runUnderlying82,sizeOf82,isAgg82,zeroValue82,underlying114,runUnderlying114,sizeOf114,isAgg114,zeroValue114,underlying150,runUnderlying150,sizeOf150,isAgg150,zeroValue150,underlying152,runUnderlying152,sizeOf152,isAgg152,zeroValue152,underlying0,runUnderlying0,sizeOf0,isAgg0,zeroValue0,underlying3,runUnderlying3,sizeOf3,isAgg3,zeroValue3,underlying4,runUnderlying4,sizeOf4,isAgg4,zeroValue4,underlying9,runUnderlying9,sizeOf9,isAgg9,zeroValue9,underlying20,runUnderlying20,sizeOf20,isAgg20,zeroValue20,underlying21,runUnderlying21,sizeOf21,isAgg21,zeroValue21,aj,aj⟩
end Go.Proofs
namespace Go.Proofs.Q0.aM
variable{v:AS}{t:SL}{xs ys:Array AS}{h':Array Obj}{w w':rl}{o o':Obj}{b r r':Nat}{a a':aic}
section
abbrev Ren:=Nat->Option Nat
def Ren.le(φ ψ:Ren):Prop:=∀b c,φ b=an c->ψ b=an c
def Ren.le_refl(φ:Ren):Ren.le φ φ:=λ_ _ h=>h
def Ren.le_trans{φ ψ d:Ren}(h:Ren.le φ ψ)(k:Ren.le ψ d):Ren.le φ d:=λb c x=>k b c (h b c x)
structure AR(φ:Ren)(a a':aic):Prop where
 block:φ a.block=an a'.block
 off:a'.off=a.off
 spot:a'.spot=a.spot
def AR.mono{φ ψ:Ren}{a a':aic}(h:AR φ a a')(k:Ren.le φ ψ):AR ψ a a':=⟨k _ _ h.block,h.off,h.spot⟩
variable[ah]
inductive fC(φ:Ren):Fn->Fn->Prop
 |func (f:FuncId):ah.fv f->fC φ (.func f) (.func f)
 |yield {l l':Nat}:φ l=an l'->fC φ (.yield l) (.yield l')
inductive Tk:AS->Prop
 |ptr {a:aic}:ah.cl a.block->Tk (.pointer (an a))
 |agg {xs:Array AS}:(∀(i:Nat) x,xs[i]?=an x->Tk x)->Tk (.agg xs)
def Pl(t:SL)(v:AS):Prop:=ah.np t\/(∃a,v=.pointer (an a)/\ah.cl a.block)\/ah.hd t/\Tk v
def Pl.or(h:Pl t v):ah.np t\/Tk v:=by
 rcases h with h|⟨a,rfl,h⟩|h
 ·simp_all
 ·exact .inr (.ptr h)
 ·simp_all
abbrev aX:AS:=.func (.method "") #[.nilIface] #[]
def Lone(v:AS):Prop:=(∀cs,v≠.agg cs)/\(∀cs,v≠.tuple cs)/\∀b,v≠.bool b
inductive VR(φ:Ren):AS->AS->Prop
 |aX {v':AS}:ah.jk v'->Lone v'->VR φ aX v'
 |bool (b:Bool):VR φ (.bool b) (.bool b)
 |int (k:IntKind) (n:Int):VR φ (.int k n) (.int k n)
 |string (s:ByteArray):VR φ (.string s) (.string s)
 |nilFunc:VR φ .nilFunc .nilFunc
 |nilIface:VR φ .nilIface .nilIface
 |nilPtr:VR φ (.pointer ns) (.pointer ns)
 |jZ:VR φ (.map ns) (.map ns)
 |jX:VR φ (.chan ns) (.chan ns)
 |ptr {a a':aic}:AR φ a a'->VR φ (.pointer (an a)) (.pointer (an a'))
 |dU (n c:Nat):VR φ (.slice ns n c) (.slice ns n c)
 |slice {a a':aic} (n c:Nat):AR φ a a'->VR φ (.slice (an a) n c) (.slice (an a') n c)
 |empty {a a':aic}:VR φ (.slice (an a) 0 0) (.slice (an a') 0 0)
 |iface (t:SL) {v v':AS}:VR φ v v'->Pl t v->VR φ (.iface t v) (.iface t v')
 |agg {xs ys:Array AS}:xs.size=ys.size->(∀(i:Nat) x y,xs[i]?=an x->ys[i]?=an y->VR φ x y)->VR φ (.agg xs) (.agg ys)
 |tuple {xs ys:Array AS}:xs.size=ys.size->(∀(i:Nat) x y,xs[i]?=an x->ys[i]?=an y->VR φ x y)->VR φ (.tuple xs) (.tuple ys)
 |func {fn UP:Fn} {xs ys us vs:Array AS}:fC φ fn UP->xs.size=ys.size->(∀(i:Nat) x y,xs[i]?=an x->ys[i]?=an y->VR φ x y)->
   us.size=vs.size->(∀(i:Nat) x y,us[i]?=an x->vs[i]?=an y->VR φ x y)->VR φ (.func fn xs us) (.func UP ys vs)
structure aB(φ:Ren)(xs ys:Array AS):Prop where
 size:xs.size=ys.size
 at_:∀(i:Nat) x y,xs[i]?=an x->ys[i]?=an y->VR φ x y
def fC.mono{φ ψ:Ren}{f f':Fn}(h:fC φ f f')(k:Ren.le φ ψ):fC ψ f f':=by cases h with|func f h=>exact .func f h|yield h=>exact .yield (k _ _ h)
def VR.mono{φ ψ:Ren}{v v':AS}(h:VR φ v v')(k:Ren.le φ ψ):VR ψ v v':=by induction h with|bool b=>exact .bool b|int a n=>exact .int a n|string s=>exact .string s|nilFunc=>exact .nilFunc|nilIface=>exact .nilIface|nilPtr=>exact .nilPtr|jZ=>exact .jZ|jX=>exact .jX|ptr h=>exact .ptr (h.mono k)|dU n c=>exact .dU n c|slice n c h=>exact .slice n c (h.mono k)|empty=>exact .empty|iface t _ p d=>exact .iface t d p|aX h1 g=>exact .aX h1 g|agg e _ d=>exact .agg e d|tuple e _ d=>exact .tuple e d|func i e _ j _ d f=>exact .func (i.mono k) e d j f
def aB.mono{φ ψ:Ren}{xs ys:Array AS}(h:aB φ xs ys)(k:Ren.le φ ψ):aB ψ xs ys:=⟨h.size,λi x y c d=>(h.at_ i x y c d).mono k⟩
def aB.get{φ:Ren}{xs ys:Array AS}(h:aB φ xs ys){i:Nat}{x:AS}(c:xs[i]?=an x):∃y,ys[i]?=an y/\VR φ x y:=by
 have hi:i<ys.size:=by rw[<-h.size];exact(bU.1 c).1
 exact⟨ys[i],eO hi,h.at_ i x _ c (eO hi)⟩
theorem aB.set{φ:Ren}(h:aB φ xs ys)(k:Nat){u:AS}(hu:VR φ u v):aB φ (xs.setIfInBounds k u) (ys.setIfInBounds k v):=by
 refine⟨by simp[h.size],λi x y c d=>?_⟩;by_cases e:k=i
 ·grind
 ·rw[ahT e] at c d;exact h.at_ i x y c d
def Jump(j:Option Code):Prop:=j=ns\/j=an .ret\/(∃i,j=an (.exit i))\/∃i,j=an (.goto i)
def pd(f:FuncId):Prop:=ah.ok f
structure cU(φ:Ren)(s:Nat->Prop)(xs ys:Array AS):Prop where
 size:xs.size=ys.size
 at_:∀(i:Nat) x y,s i->xs[i]?=an x->ys[i]?=an y->VR φ x y
 tY:∀i,s i->i<xs.size
def cU.mono{φ ψ:Ren}{s:Nat->Prop}{xs ys:Array AS}(h:cU φ s xs ys)(k:Ren.le φ ψ):cU ψ s xs ys:=⟨h.size,λi x y c d e=>(h.at_ i x y c d e).mono k,h.tY⟩
def aB.tmR{φ:Ren}{s:Nat->Prop}(h:aB φ xs ys)(c:∀i,s i->i<xs.size):cU φ s xs ys:=⟨h.size,λi x y _ d e=>h.at_ i x y d e,c⟩
def cU.get{φ:Ren}{s:Nat->Prop}{xs ys:Array AS}(h:cU φ s xs ys){i:Nat}(d:s i){x:AS}(c:xs[i]?=an x):∃y,ys[i]?=an y/\VR φ x y:=by
 have hi:i<ys.size:=by rw[<-h.size];exact(bU.1 c).1
 exact⟨ys[i],eO hi,h.at_ i x _ d c (eO hi)⟩
theorem cU.set{φ:Ren}{s:Nat->Prop}(h:cU φ s xs ys)(k:Nat){u:AS}(hu:VR φ u v):cU φ s (xs.setIfInBounds k u) (ys.setIfInBounds k v):=by
 refine⟨by simp[h.size],λi x y f c d=>?_,λi hi=>by simpa using h.tY i hi⟩;by_cases e:k=i
 ·grind
 ·rw[ahT e] at c d;exact h.at_ i x y f c d
structure cL(φ:Ren)(l l':Loop):Prop where
 state:l'.state=l.state
 pending:l'.pending=l.pending
 fn:l'.fn=l.fn
 tmps:cU φ (ah.lv l.fn) l.tmps l'.tmps
 params:l'.params=l.params
 assign:l'.assign=l.assign
 body:l'.body=l.body
 defers:φ l.defers=an l'.defers
 rz:ah.cd l.fn l.assign
 okB:ah.cd l.fn l.body
 tZ:Jump l.pending
 okF:pd l.fn
inductive OR(φ:Ren):Obj->Obj->Prop
 |cells {cs cs':Array AS} (t:SL) (f:Nat×Nat):aB φ cs cs'->OR φ (.cells cs t f) (.cells cs' t f)
 |loop {l l':Loop}:cL φ l l'->OR φ (.loop l) (.loop l')
 |deferred:OR φ (.deferred (an [])) (.deferred (an []))
 |taken:OR φ (.deferred ns) (.deferred ns)
 |number {a a':aic} (l:Bool):AR φ a a'->OR φ (.number a l) (.number a' l)
def cL.mono{φ ψ:Ren}{l l':Loop}(h:cL φ l l')(k:Ren.le φ ψ):cL ψ l l':=⟨h.state,h.pending,h.fn,h.tmps.mono k,h.params,h.assign,h.body,k _ _ h.defers,h.rz,h.okB,h.tZ,h.okF⟩
def OR.mono{φ ψ:Ren}{o o':Obj}(h:OR φ o o')(k:Ren.le φ ψ):OR ψ o o':=by cases h with|cells t f h=>exact .cells t f (h.mono k)|loop h=>exact .loop (h.mono k)|deferred=>exact .deferred|taken=>exact .taken|number l h=>exact .number l (h.mono k)
structure aI where
 ro:Nat->Prop
 tok:Nat->Prop
 strict:Bool
 G:Nat
def Obj.loose:Obj->Prop
 |.cells _ _ f=>f=(0,0)
 |_=>True
def Obj.blank:Obj->Prop
 |.loop _|.deferred _|.stringIter _ _=>True
 |_=>False
inductive HO(K:aI)(φ:Ren)(b:Nat):Obj->Obj->Prop
 |own {o o':Obj}:¬K.ro b->¬K.tok b->OR φ o o'->(K.strict=AT->Obj.loose o)->HO K φ b o o'
 |shut {cs cs':Array AS} (t:SL) {f':Nat×Nat}:K.ro b->¬K.tok b->aB φ cs cs'->(ah.cl b->f'=(0,0))->HO K φ b (.cells cs t (0,cs.size)) (.cells cs' t f')
 |token (s:ByteArray) (p:Nat) (cs':Array AS) (t:SL) {f':Nat×Nat}:K.tok b->0<cs'.size->(ah.cl b->f'=(0,0))->HO K φ b (.stringIter s p) (.cells cs' t f')
 |blank (s:ByteArray) (p:Nat) {o':Obj}:K.tok b->Obj.blank o'->HO K φ b (.stringIter s p) o'
 |num {a a':aic} (l:Bool):K.tok b->AR φ a a'->HO K φ b (.number a l) (.number a' l)
def HO.mono{K:aI}{φ ψ:Ren}{b:Nat}{o o':Obj}(h:HO K φ b o o')(k:Ren.le φ ψ):HO K ψ b o o':=by cases h with|own h1 c d e=>exact .own h1 c (d.mono k) e|shut t h1 c e f=>exact .shut t h1 c (e.mono k) f|token s p cs' t h1 c d=>exact .token s p cs' t h1 c d|blank s p h1 c=>exact .blank s p h1 c|num l h1 c=>exact .num l h1 (c.mono k)
def aI.af7(K:aI)(b c:Nat):Prop:=(K.ro b\/K.tok b)/\(K.ro c\/K.tok c)/\¬(ah.cl b/\ah.cl c)/\K.G<=b
structure HR(K:aI)(φ:Ren)(h h':Array Obj):Prop where
 inj:∀b c d,φ b=an d->φ c=an d->b=c\/K.af7 b c
 obj:∀b c,φ b=an c->∃o o',h[b]?=an o/\h'[c]?=an o'/\HO K φ b o o'
 below:∀b,K.ro b\/K.tok b->b<h.size/\K.strict=AT
 low:∀b c,φ b=an c->(b<K.G<->c<K.G)
 fX:K.G<=h.size/\K.G<=h'.size
structure WR(K:aI)(φ:Ren)(w w':rl):Prop where
 heap:HR K φ w.heap w'.heap
 tape:∀i q,w.tape (w.drawn+i) q=w'.tape (w'.drawn+i) q
def HR.lt{K:aI}{φ:Ren}{h h':Array Obj}(H:HR K φ h h'){b c:Nat}(x:φ b=an c):b<h.size/\c<h'.size:=by obtain⟨o,o',h1,d,_⟩:=H.obj b c x;exact⟨(bU.1 h1).1,(bU.1 d).1⟩
def j7(w c:rl):Prop:=w.heap.size<=c.heap.size/\∀b,b<w.heap.size->c.heap[b]?=w.heap[b]?
def j7.refl(w:rl):j7 w w:=⟨ay _,λ_ _=>rfl⟩
def j7.trans{a b c:rl}(h:j7 a b)(k:j7 b c):j7 a c:=⟨aQ h.1 k.1,λx d=>(k.2 x (cC d h.1)).trans (h.2 x d)⟩
def HR.bK{K:aI}{φ:Ren}{e:rl}(H:HR K φ w.heap h')(k:j7 w e):HR K φ e.heap h':=by refine⟨H.inj,λb c d=>?_,λb d=>⟨cC (H.below b d).1 k.1,(H.below b d).2⟩,H.low,aQ H.fX.1 k.1,H.fX.2⟩;obtain⟨o,o',h1,f,g⟩:=H.obj b c d;exact⟨o,o',by rw[k.2 b (H.lt d).1];exact h1,f,g⟩
def Ren.add(φ:Ren)(b c:Nat):Ren:=λx=>if x=b then an c else φ x
def Ren.add_same(φ:Ren)(b c:Nat):Ren.add φ b c b=an c:=by simp[Ren.add]
def HR.push{K:aI}{φ:Ren}{h:Array Obj}(H:HR K φ h h')(m:OR φ o o')(i:K.strict=AT->Obj.loose o):
  Ren.le φ (Ren.add φ h.size h'.size)/\HR K (Ren.add φ h.size h'.size) (h.push o) (h'.push o'):=by
 have le:Ren.le φ (Ren.add φ h.size h'.size):=λb c x=>by have:=(H.lt x).1;simp only[Ren.add];rw[if_neg aa];exact x
 refine⟨le,λb c d f hc=>?_,λb c f=>?_,λb f=>?_,λb c f=>?_,by have:=H.fX;simp;omega⟩
 ·simp only[Ren.add] at f hc;split at f<;>split at hc
  ·omega
  ·have:=(H.lt hc).2;cases f;omega
  ·have:=(H.lt f).2;cases hc;omega
  ·exact H.inj b c d f hc
 ·by_cases e:b=h.size
  ·subst e;rw[Ren.add_same] at f;cases f;exact⟨o,o',au,au,.own (λj=>by have:=H.below _ (.inl j);omega) (λj=>by have:=H.below _ (.inr j);omega) (m.mono le) i⟩
  ·have g:φ b=an c:=by simpa[Ren.add,e] using f
   obtain⟨x,n,h1,p,q⟩:=H.obj b c g;have l:=H.lt g;exact⟨x,n,by rw[aiM l.1];simpa[aik l.1] using h1,by rw[aiM l.2];simpa[aik l.2] using p,q.mono le⟩
 ·have:=H.below b f;exact⟨by simp;omega,this.2⟩
 ·by_cases e:b=h.size
  ·subst e;rw[Ren.add_same] at f;cases f;have:=H.fX;omega
  ·exact H.low b c (by simpa[Ren.add,e] using f)
def HR.put{K:aI}{φ:Ren}{h:Array Obj}(H:HR K φ h h'){c:Nat}(g:φ b=an c)(q:OR φ o o')(n:¬K.ro b)(f:¬K.tok b)(i:K.strict=AT->Obj.loose o):
  HR K φ (h.setIfInBounds b o) (h'.setIfInBounds c o'):=by
 have l:=H.lt g;refine⟨H.inj,λx y d=>?_,λx d=>by simpa using H.below x d,H.low,by simpa using H.fX⟩;by_cases e:b=x
 ·subst e;rw[g] at d;cases d;exact⟨o,o',aiv l.1,aiv l.2,.own n f q i⟩
 ·have j:c≠y:=λj=>(H.inj b x c g (j▸d)).elim e λm=>m.1.elim n f;obtain⟨p,u,h1,z,A⟩:=H.obj x y d;exact⟨p,u,by rw[ahT e];exact h1,by rw[ahT j];exact z,A⟩
def Quiet(m:Mark):Prop:=m=.noRoom\/∃f,m=.extern f
def fp(K:aI)(ψ:Ren)(e:aiK):Prop:=
 (∃a b,e.loc=.cell a/\e.sync=Ba/\ψ b=an a.block/\¬K.tok b/\(e.write=AT->¬K.ro b))\/
 (∃r b,e.loc=.obj r/\e.sync=Ba/\ψ b=an r/\(e.write=AT->¬K.tok b/\¬K.ro b))\/∃m,e.loc=.mark m/\Quiet m
def fp.mono{K:aI}{φ ψ:Ren}{e:aiK}(h:fp K φ e)(k:Ren.le φ ψ):fp K ψ e:=by
 rcases h with⟨a,b,h1,c,d,f⟩|⟨r,b,h1,c,d,f⟩|h
 ·exact .inl ⟨a,b,h1,c,k _ _ d,f⟩
 ·exact .inr (.inl ⟨r,b,h1,c,k _ _ d,f⟩)
 ·exact .inr (.inr h)
structure jG(w w1:rl):Prop where
 tape:w1.tape=w.tape
 os:w1.os=w.os
 out:w1.output=w.output
 drawn:w.drawn<=w1.drawn
 size:w.heap.size<=w1.heap.size
def jG.refl(w:rl):jG w w:=⟨rfl,rfl,rfl,ay _,ay _⟩
def jG.trans{a b c:rl}(h:jG a b)(k:jG b c):jG a c:=⟨k.tape.trans h.tape,k.os.trans h.os,k.out.trans h.out,aQ h.drawn k.drawn,aQ h.size k.size⟩
structure gw(K:aI)(φ ψ:Ren)(n:Nat)(w w1:rl):Prop where
 left:jG w w1
 le:Ren.le φ ψ
 fresh:∀b c,ψ b=an c->φ b=an c\/(n<=b/\w.heap.size<=c)
 apart:∀c,c<w.heap.size->(∀b,φ b=an c->K.ro b\/K.tok b)->w1.heap[c]?=w.heap[c]?
def gw.refl(K:aI)(φ:Ren)(n:Nat)(w:rl):gw K φ φ n w w:=⟨.refl w,Ren.le_refl φ,λ_ _ h=>.inl h,λ_ _ _=>rfl⟩
def gw.trans{K:aI}{φ ψ e:Ren}{n m:Nat}{a b c:rl}(h:gw K φ ψ n a b)(k:gw K ψ e m b c)(g:n<=m):gw K φ e n a c:=by
 refine⟨h.left.trans k.left,Ren.le_trans h.le k.le,λx y d=>?_,λx d i=>?_⟩
 ·rcases k.fresh x y d with h1|⟨h1,f⟩
  ·exact h.fresh x y h1
  ·exact .inr ⟨aa,aQ h.left.size f⟩
 ·rw[k.apart x (Nat.lt_of_lt_of_le d h.left.size) λy j=>?_,h.apart x d i];rcases h.fresh y x j with h1|⟨_,f⟩
  ·simp_all
  ·omega
def fB(P:OF){α:Type}(s:Sem α):Prop:=∀w,∃h c,s.run P w=.halt h c/\kO h/\j7 w c
def Calm(P:OF){α:Type}(s:Sem α):Prop:=∀w,(∀h c,s.run P w=.halt h c->kO h/\j7 w c)/\∀a c,s.run P w=.ok a c->j7 w c
def SN(P:OF)(K:aI){α:Type}(φ:Ren)(s:Sem α):Prop:=∀w w',WR K φ w w'->∀h c,s.run P w=.halt h c->kO h/\∃ψ h',Ren.le φ ψ/\HR K ψ c.heap h'
def _root_.Go.World.on(w:rl)(T:Tape)(n:Nat):rl:={w with tape:=T,drawn:=n}
def Tt(P:OF)(K:aI){α:Type}(φ:Ren)(s:Sem α):Prop:=∀w w',WR K φ w w'->∀a c,s.run P w=.ok a c->
 ∃k,c.drawn=w.drawn+k/\c.tape=w.tape/\∀(T:Tape) n,(∀j,j<k->∀q,T (n+j) q=w.tape (w.drawn+j) q)->s.run P (w.on T n)=.ok a (c.on T (n+k))
def Does(P:OF)(K:aI){α β:Type}(R:Ren->α->β->Prop)(φ:Ren)(s:Sem α)(s':Sem β):Prop:=
 ∀{w w':rl}{a:α}{f:rl}(es:Array aiK),WR K φ w w'->s.run P w=.ok a f->
  ∃ψ b c d,s'.runT P.two w' es=(.ok b c,es++d)/\R ψ a b/\WR K ψ f c/\jG w f/\gw K φ ψ w.heap.size w' c/\∀e∈d,fp K ψ e
def At(P:OF)(K:aI){α β:Type}(R:Ren->α->β->Prop)(φ:Ren)(s:Sem α)(s':Sem β)(w w':rl)(es:Array aiK):Prop:=
 (∀a c,s.run P w=.ok a c->(∃ψ b f d,s'.runT P.two w' es=(.ok b f,es++d)/\R ψ a b/\WR K ψ c f/\jG w c/\gw K φ ψ w.heap.size w' f/\∀e∈d,fp K ψ e)/\
  ∃k,c.drawn=w.drawn+k/\c.tape=w.tape/\∀(T:Tape) n,(∀j,j<k->∀q,T (n+j) q=w.tape (w.drawn+j) q)->s.run P (w.on T n)=.ok a (c.on T (n+k)))/\
 ∀x c,s.run P w=.halt x c->kO x/\∃ψ h',Ren.le φ ψ/\HR K ψ c.heap h'
def SR(P:OF)(K:aI){α β:Type}(R:Ren->α->β->Prop)(φ:Ren)(s:Sem α)(s':Sem β):Prop:=∀w w' es,WR K φ w w'->At P K R φ s s' w w' es
section
variable{P:OF}{K:aI}{α β:Type}{R:Ren->α->β->Prop}{φ ψ:Ren}{s k:Sem α}{s' k':Sem β}{w w2 w' Fm:rl}{es d0:Array aiK}
def SR.run(h:SR P K R φ s s'):Does P K R φ s s':=λes hw c=>((h _ _ es hw).1 _ _ c).1
def SR.wh(h:SR P K R φ s s'):SN P K φ s:=λw w' hw=>(h w w' #[] hw).2
def SR.af8(h:SR P K R φ s s'):Tt P K φ s:=λw w' hw a c e=>((h w w' #[] hw).1 a c e).2
def SR.of_does(h:Does P K R φ s s')(d:SN P K φ s)(c:Tt P K φ s):SR P K R φ s s':=λw w' es hw=>⟨λa f e=>⟨h es hw e,c w w' hw a f e⟩,d w w' hw⟩
def At.halt{x:Halt}{d:rl}(e:s.run P w=.halt x d)(f:kO x)(g:∃ψ h',Ren.le φ ψ/\HR K ψ d.heap h'):At P K R φ s s' w w' es:=
 ⟨λ_ _ c=>(by rw[e] at c;cases c),λ_ _ c=>(by rw[e] at c;cases c;exact⟨f,g⟩)⟩
def At.step(j:Nat)(h:SR P K R ψ k k')(hw:WR K ψ w2 Fm)(c:jG w w2)(hd:w2.drawn=w.drawn+j)(p:gw K φ ψ w.heap.size w' Fm)(he:∀e∈d0,fp K ψ e)
  (u:∀(T:Tape) n,(∀i,i<j->∀q,T (n+i) q=w.tape (w.drawn+i) q)->s.run P (w.on T n)=k.run P (w2.on T (n+j)))
  (B:s'.runT P.two w' es=k'.runT P.two Fm (es++d0)):At P K R φ s s' w w' es:=by
 have y:s.run P w=k.run P w2:=by have:=u w.tape w.drawn λ_ _ _=>rfl;rw[<-hd] at this;exact this.trans (by rw[<-c.tape];rfl)
 constructor
 ·intro a g f;rw[y] at f;obtain⟨⟨l,b,m,d,h1,C,D,E,z,F⟩,G,N,H,I⟩:=(h w2 Fm (es++d0) hw).1 a g f;refine⟨⟨l,b,m,d0++d,by rw[B,h1];simp,C,D,c.trans E,p.trans z c.size,λe h=>(jv.1 h).elim (λh=>(he e h).mono z.le) (F e)⟩,j+G,aa,H.trans c.tape,λT n A=>?_⟩;rw[u T n λi hi=>A i aa,I T (n+j) (λi hi q=>by rw[Nat.add_assoc,A (j+i) aa,c.tape,hd,Nat.add_assoc]),Nat.add_assoc]
 ·intro x g f;rw[y] at f;obtain⟨J,l,h',L,M⟩:=(h w2 Fm (es++d0) hw).2 x g f;exact⟨J,l,h',Ren.le_trans p.le L,M⟩
def SR.pure{a:α}{b:β}(h:R φ a b):SR P K R φ (.pure a) (.pure b):=λw w' es hw=>⟨λ_ _ c=>(by cases c;exact⟨⟨φ,b,w',#[],by simp[akd],h,hw,.refl _,.refl _ _ _ _,by simp⟩,0,rfl,rfl,λ_ _ _=>rfl⟩),λ_ _ c=>nomatch c⟩
def SR.dead(h:fB P s):SR P K R φ s s':=λw w' es hw=>by obtain⟨x,f,e,c,d⟩:=h w;exact .halt e c ⟨φ,w'.heap,Ren.le_refl _,hw.heap.bK d⟩
def SR.halt(h:Halt)(s':Sem β)(c:kO h:=by trivial):SR P K R φ (.halt h:Sem α) s':=.dead λw=>⟨h,w,rfl,c,.refl w⟩
def SR.mono{f:Ren->α->β->Prop}(g:∀φ a b,R φ a b->f φ a b)(h:SR P K R φ s s'):SR P K f φ s s':=λw w' es hw=>⟨λa i e=>let⟨⟨ψ,b,c,d,h1,j,m⟩,l⟩:=(h w w' es hw).1 a i e;⟨⟨ψ,b,c,d,h1,g _ _ _ j,m⟩,l⟩,(h w w' es hw).2⟩
def SR.program{k:OF->Sem α}{k':OF->Sem β}(h:SR P K R φ (k P) (k' P.two)):SR P K R φ (.program k) (.program k'):=h
def SR.bind{j l:Type}{S:Ren->j->l->Prop}{f:α->Sem j}{f':β->Sem l}(h:SR P K R φ s s')(p:∀ψ a b,Ren.le φ ψ->R ψ a b->SR P K S ψ (f a) (f' b)):SR P K S φ (s.bind f) (s'.bind f'):=λw w' es hw=>by
 cases g:s.run P w with
 |halt x w2=>obtain⟨h1,i⟩:=(h w w' es hw).2 x w2 g;exact .halt (by show(s>>=f).run P w=_;rw[aih,g];rfl) h1 i
 |ok c w2=>obtain⟨⟨ψ,b,Fm,d,h1,i,q,u,m,y⟩,z,A,D,B⟩:=(h w w' es hw).1 c w2 g;exact .step z (p ψ c b m.le i) q u A m y (λT n C=>by show(s>>=f).run P _=_;rw[aih,B T n C];rfl) (by have e:=ou P.two s' f' w' es;rw[h1] at e;exact e)
def WB{c:Type}{f:α->Sem c}(h:fB P s):fB P (s.bind f):=λw=>by obtain⟨x,d,e,g⟩:=h w;exact⟨x,d,by show(s>>=f).run P w=_;rw[aih,e];rfl,g⟩
end
end
section
variable[ah]
section
variable{P:OF}{K:aI}
def DC{cs:Array AS}{f:Nat×Nat}(h:w.heap[b]?=an (.cells cs t f))(off:Nat)(c:Option Nat):
  w.cell? ⟨b,off,c⟩=if c.isSome then ns else cs[off]?:=by simp[aiu,h]
def Om(h:w.heap[a.block]?=an o)(c:∀cs t f,o≠.cells cs t f):w.cell? a=ns:=by unfold aiu;rw[h];cases o<;>first|rfl|exact absurd rfl (c _ _ _)
def HO.cells{φ:Ren}{b:Nat}{cs:Array AS}{t:SL}{f:Nat×Nat}{o':Obj}(h:HO K φ b (.cells cs t f) o'):∃cs' f',o'=.cells cs' t f'/\aB φ cs cs'/\¬K.tok b/\((¬K.ro b/\f'=f/\(K.strict=AT->f=(0,0)))\/(K.ro b/\∃n,f=(0,n)/\cs.size<=n)):=by
 cases h with
 |own h1 c e d=>cases e with|cells t f h=>exact⟨_,_,rfl,h,c,.inl ⟨h1,rfl,d⟩⟩
 |shut t h1 c d=>exact⟨_,_,rfl,d,c,.inr ⟨h1,_,rfl,ay _⟩⟩
def HO.other{φ:Ren}(h:HO K φ b o o')(c:∀cs t f,o≠.cells cs t f):∀x y,o≠.view x y:=by intro x y e;subst e;cases h with|own _ _ h _=>cases h
theorem isCells(o:Obj):(∃cs t f,o=.cells cs t f)\/∀cs t f,o≠.cells cs t f:=eW
def HR.cell{φ:Ren}{w w':rl}(H:HR K φ w.heap w'.heap){a a':aic}(d:AR φ a a'){v:AS}(c:w.cell? a=an v):∃v',w'.cell? a'=an v'/\VR φ v v'/\¬K.tok a.block:=by
 obtain⟨o,o',h1,e,g⟩:=H.obj _ _ d.block;rcases isCells o with⟨p,t,f,rfl⟩|h
 ·obtain⟨i,q,rfl,hc,j,_⟩:=g.cells;rw[show a=⟨a.block,a.off,a.spot⟩ from rfl,DC h1] at c;split at c
  ·cases c
  ·rename_i l;obtain⟨y,m,n⟩:=hc.get c;refine⟨y,?_,n,j⟩;rw[show a'=⟨a'.block,a'.off,a'.spot⟩ from rfl,DC e,d.spot,if_neg l,d.off];exact m
 ·rw[Om h1 h] at c;cases c
def HR.acY{φ:Ren}(H:HR K φ w.heap w'.heap)(h:φ r=an r'):w'.shape? r'=w.shape? r\/w.shape? r=ns:=by
 obtain⟨o,o',h1,c,d⟩:=H.obj _ _ h;rcases isCells o with⟨i,t,f,rfl⟩|e
 ·obtain⟨g,j,rfl,hc,_⟩:=d.cells;exact .inl (by simp[ajh,h1,c,hc.size])
 ·refine .inr ?_;unfold ajh;rw[h1];cases o<;>first|rfl|exact absurd rfl (e _ _ _)
def DL{cs:Array AS}{f:Nat×Nat}(h:w.heap[a.block]?=an (.cells cs t f))(d:a.spot=ns):
  (w.setCell a v).heap=w.heap.setIfInBounds a.block (.cells (cs.setIfInBounds a.off v) t f):=by
 apply zc;intro i;have c:=(bU.1 h).1;by_cases e:a.block=i
 ·subst e;rw[aiv c];simp[akI,Array.getElem?_modify,h,d]
 ·rw[ahT e];simp[akI,Array.getElem?_modify,e]
omit [ah] in
def QE(w:rl)(T:Tape)(n:Nat)(a:aic):(w.on T n).cell? a=w.cell? a:=rfl
def HR.noCell{φ:Ren}(H:HR K φ w.heap w'.heap)(d:AR φ a a')(c:String):kO (w.noCell a c):=by obtain⟨o,o',h1,f,e⟩:=H.obj _ _ d.block;unfold World.noCell;rw[h1];cases e with|shut=>trivial|token=>trivial|blank=>trivial|num=>trivial|own _ _ h _=>cases h<;>trivial
def HR.farLoad{φ:Ren}(H:HR K φ w.heap w'.heap)(c:AR φ a a')(m:Bool):w.farLoad P a m=.error (w.noCell a "load: no such cell"):=by
 obtain⟨o,o',h1,h,d⟩:=H.obj _ _ c.block
 have e:∀x y,o≠.view x y:=by
  rcases isCells o with⟨i,t,f,rfl⟩|g
  ·simp
  ·exact d.other g
 unfold World.farLoad;rw[h1];cases o<;>first|rfl|exact absurd rfl (e _ _)
def HR.farStore{φ:Ren}(H:HR K φ w.heap w'.heap)(c:AR φ a a')(v:AS)(m:Bool):w.farStore P a v m=.error (w.noCell a "store: no such cell"):=by
 obtain⟨o,o',h1,h,d⟩:=H.obj _ _ c.block
 have e:∀x y,o≠.view x y:=by
  rcases isCells o with⟨i,t,f,rfl⟩|g
  ·simp
  ·exact d.other g
 unfold World.farStore;rw[h1];cases o<;>first|rfl|exact absurd rfl (e _ _)
section
variable{α β:Type}{R:Ren->α->β->Prop}{φ:Ren}
def SR.load{k:AS->Sem α}{k':AS->Sem β}(c:AR φ a a')(h:∀v v',VR φ v v'->SR P K R φ (k v) (k' v')):SR P K R φ (.load .plain a k) (.load .plain a' k'):=λw w' es hw=>by
 cases hc:w.cell? a with
 |none=>exact .halt (by simp only[aiQ,hc,hw.heap.farLoad c];rfl) (hw.heap.noCell c _) ⟨φ,w'.heap,Ren.le_refl _,hw.heap⟩
 |some v=>
  obtain⟨v',d,f,g⟩:=hw.heap.cell c hc
  exact .step 0 (h v v' f) hw (.refl w) rfl (.refl _ _ _ _) (d0:=#[⟨.cell a',Ba,Ba⟩]) (λe he=>by simp at he;subst he;exact .inl ⟨a',a.block,rfl,rfl,c.block,g,λe=>by cases e⟩) (λT n _=>by simp only[aiQ,QE,hc];rfl) (by simp only[akd,d];rfl)
def SR.store{v':AS}{k:Sem α}{k':Sem β}(i:AR φ a a')(G:VR φ v v')(h:SR P K R φ k k'):SR P K R φ (.store .plain a v k) (.store .plain a' v' k'):=λw w' es hw=>by
 have d:∃ψ h',Ren.le φ ψ/\HR K ψ w.heap h':=⟨φ,w'.heap,Ren.le_refl _,hw.heap⟩;by_cases m:(∃xs,v=.agg xs)\/∃xs,v=.tuple xs
 ·rcases m with⟨xs,rfl⟩|⟨xs,rfl⟩<;>exact .halt rfl trivial d
 have H:∀xs,v≠.agg xs:=λxs e=>m (.inl ⟨xs,e⟩);have A:∀xs,v≠.tuple xs:=λxs e=>m (.inr ⟨xs,e⟩)
 have B:∀w:rl,(Sem.store Mode.plain a v k).run P w=match w.cell? a with
   |some _=>if w.frozen? a then .halt (.unsupported (.unsafePointer "a write to bytes that a string shares")) w else k.run P (w.setCell a v)
   |none=>match w.farStore P a v (Mode.plain==Mode.atomic) with
    |.ok (w,_)=>k.run P w
    |.error h=>.halt h w:=by
  intro w;cases v<;>first|rfl|exact absurd rfl (H _)|exact absurd rfl (A _)
 cases hc:w.cell? a with
 |none=>exact .halt (by rw[B,hc];simp only[hw.heap.farStore i];rfl) (hw.heap.noCell i _) d
 |some u=>
  by_cases j:w.frozen? a=AT
  ·refine .halt ((B w).trans (by rw[hc];exact if_pos j)) ?_ d;trivial
  obtain⟨Q,q,_,C⟩:=hw.heap.cell i hc;obtain⟨o,o',x,I,J⟩:=hw.heap.obj _ _ i.block;rcases isCells o with⟨L,t,f,rfl⟩|D;case inr=>rw[Om x D] at hc;cases hc
  obtain⟨M,S,rfl,E,_,p⟩:=J.cells
  obtain⟨y,N⟩:a.spot=ns/\a.off<L.size:=by rw[show a=⟨a.block,a.off,a.spot⟩ from rfl,DC x] at hc;cases hq:a.spot with|none=>rw[hq] at hc;exact⟨rfl,(bU.1 hc).1⟩|some z=>simp[hq] at hc
  rcases p with⟨g,rfl,F⟩|⟨_,n,rfl,A⟩;case inr=>exact absurd (by simp[ahV,x];omega) j
  have s1:=DL (v:=v) x y;have s2:=DL (v:=v') I (i.spot.trans y);refine .step 0 h (w2:=w.setCell a v) (Fm:=w'.setCell a' v') ⟨?_,hw.tape⟩ ⟨rfl,rfl,rfl,ay _,by rw[s1];simp⟩ rfl ⟨⟨rfl,rfl,rfl,ay _,by rw[s2];simp⟩,Ren.le_refl _,λ_ _ h=>.inl h,λc hc D=>?_⟩ (d0:=#[⟨.cell a',AT,Ba⟩]) (λe he=>?_) (λT n _=>?_) ?_
  ·rw[s1,s2,i.off];exact hw.heap.put i.block (.cells t _ (E.set _ G)) g C F
  ·rw[s2,ahT λe:a'.block=c=>(D _ (e▸i.block)).elim g C]
  ·simp at he;subst he;exact .inl ⟨a',a.block,rfl,rfl,i.block,C,λ_=>g⟩
  ·rw[B,QE,hc];exact if_neg j
  ·have l:w'.frozen? a'=Ba:=by rw[<-Bool.not_eq_true,show w'.frozen? a'=w.frozen? a by simp[ahV,x,I,i.off]];exact j
   cases G with
   |agg=>exact absurd rfl (H _)
   |tuple=>exact absurd rfl (A _)
   |aX _ h=>cases v'<;>first|(simp only[akd,q,l];rfl)|exact absurd rfl (h.1 _)|exact absurd rfl (h.2.1 _)
   |_=>simp only[akd,q,l];rfl
def SR.new{o o':Obj}{k:Nat->Sem α}{k':Nat->Sem β}(g:OR φ o o')(d:Obj.loose o)(h:∀ψ r r',Ren.le φ ψ->ψ r=an r'->SR P K R ψ (k r) (k' r')):SR P K R φ (.new o k) (.new o' k'):=λw w' es hw=>by
 obtain⟨le,H⟩:=hw.heap.push g (λ_=>d)
 exact .step 0 (h _ _ _ le (Ren.add_same _ _ _)) (w2:={w with heap:=w.heap.push o}) (Fm:={w' with heap:=w'.heap.push o'}) ⟨H,hw.tape⟩ ⟨rfl,rfl,rfl,ay _,au⟩ rfl ⟨⟨rfl,rfl,rfl,ay _,au⟩,le,λb c f=>by
   by_cases e:b=w.heap.size
   ·subst e;rw[Ren.add_same] at f;cases f;exact .inr ⟨ay _,ay _⟩
   ·exact .inl (by simpa[Ren.add,e] using f),λc hc _=>by
   show(w'.heap.push o')[c]?=_;rw[aiM hc];simp[aik hc]⟩ (d0:=#[]) (λe he=>by simp at he) (λ_ _ _=>rfl) (by simp[akd])
def SR.shape{k:Option (SL×Nat)->Sem α}{k':Option (SL×Nat)->Sem β}(hr:φ r=an r')(h:∀s,SR P K R φ (k s) (k' s))(h0:∀s,SR P K R φ (k ns) (k' s)):SR P K R φ (.shape r k) (.shape r' k'):=λw w' es hw=>by
 have c:SR P K R φ (k (w.shape? r)) (k' (w'.shape? r')):=by
  rcases hw.heap.acY hr with he|he
  ·rw[he];exact h _
  ·rw[he];exact h0 _
 exact c w w' es hw
def SR.getObj{k:Obj->Sem α}{k':Obj->Sem β}(hr:φ r=an r')(h:∀o o',OR φ o o'->¬K.ro r->¬K.tok r->SR P K R φ (k o) (k' o'))(hd:∀s p,fB P (k (.stringIter s p)))(g:∀a l,fB P (k (.number a l))):SR P K R φ (.getObj r k) (.getObj r' k'):=λw w' es hw=>by
 obtain⟨o,o',i,z,A⟩:=hw.heap.obj _ _ hr;have c:∃ψ h',Ren.le φ ψ/\HR K ψ w.heap h':=⟨φ,w'.heap,Ren.le_refl _,hw.heap⟩;rcases isCells o with⟨E,t,f,rfl⟩|j
 ·exact .halt (x:=.stuck _) (by simp only[aiQ,i];rfl) trivial c
 have q:∀d:rl,d.heap[r]?=an o->(Sem.getObj r k).run P d=(k o).run P d:=by intro d h0;cases o<;>first|(simp only[aiQ,h0];done)|exact absurd rfl (j _ _ _)
 have dd:fB P (k o)->At P K R φ (.getObj r k) (.getObj r' k') w w' es:=λh=>by obtain⟨x,w2,e,B,C⟩:=h w;exact .halt ((q w i).trans e) B ⟨φ,w'.heap,Ren.le_refl _,hw.heap.bK C⟩
 cases A with
 |shut=>exact absurd rfl (j _ _ _)
 |token s p=>exact dd (hd s p)
 |blank s p=>exact dd (hd s p)
 |num l=>exact dd (g _ l)
 |own u y m _=>
  exact .step 0 (h o o' m u y) hw (.refl w) rfl (.refl _ _ _ _) (d0:=#[⟨.obj r',Ba,Ba⟩]) (λe he=>by
   simp at he;subst he;exact .inr (.inl ⟨r',r,rfl,rfl,hr,λ_=>⟨y,u⟩⟩)) (λT n _=>q (w.on T n) i) (by
   have D:o'.isChan=Ba:=by cases m<;>rfl
   cases m with
   |cells t f h=>exact absurd rfl (j _ _ _)
   |_=>simp only[akd,z];rfl)
def SR.setObj{k:Sem α}{k':Sem β}(hr:φ r=an r')(i:¬K.ro r)(d:¬K.tok r)(q:OR φ o o')(j:Obj.loose o)(h:SR P K R φ k k'):SR P K R φ (.setObj r o k) (.setObj r' o' k'):=λw w' es hw=>by
 obtain⟨p,B,u,y,z⟩:=hw.heap.obj _ _ hr;rcases isCells p with⟨C,t,f,rfl⟩|g
 ·exact .halt (x:=.stuck _) (by simp only[aiQ,u];rfl) trivial ⟨φ,w'.heap,Ren.le_refl _,hw.heap⟩
 cases z with
 |shut=>exact absurd rfl (g _ _ _)
 |token _ _ _ _ h _=>exact absurd h d
 |blank _ _ h _=>exact absurd h d
 |num _ h _=>exact absurd h d
 |own _ _ A _=>
  refine .step 0 h (w2:={w with heap:=w.heap.setIfInBounds r o}) (Fm:={w' with heap:=w'.heap.setIfInBounds r' o'}) ⟨hw.heap.put hr q i d λ_=>j,hw.tape⟩ ⟨rfl,rfl,rfl,ay _,au⟩ rfl ⟨⟨rfl,rfl,rfl,ay _,au⟩,Ren.le_refl _,λ_ _ h=>.inl h,λc hc g=>ahT λe:r'=c=>(g _ (e▸hr)).elim i d⟩ (d0:=#[⟨.obj r',AT,Ba⟩]) (λe he=>?_) (λT n _=>?_) ?_
  ·simp at he;subst he;exact .inr (.inl ⟨r',r,rfl,rfl,hr,λ_=>⟨d,i⟩⟩)
  ·have l:(w.on T n).heap[r]?=an p:=u;cases p<;>first|(simp only[aiQ,l];rfl)|exact absurd rfl (g _ _ _)
  ·have m:o'.isChan=Ba:=by cases q<;>rfl
   cases A with|cells t f h=>exact absurd rfl (g _ _ _)|_=>simp only[akd,y,m];rfl
def SR.choose{q:Question}{k:Nat->Sem α}{k':Nat->Sem β}(h:∀n,SR P K R φ (k n) (k' n)):SR P K R φ (.choose q k) (.choose q k'):=λw w' es hw=>by
 by_cases hq:q.forced=AT
 ·exact .step 0 (h 0) hw (.refl w) rfl (.refl _ _ _ _) (d0:=#[]) (λe he=>by simp at he) (λT n _=>by simp only[aiQ,if_pos hq];rfl) (by simp[akd,if_pos hq])
 ·have c:=hw.tape 0 q;refine .step 1 (h (q.cut (w.tape w.drawn q))) (w2:={w with drawn:=w.drawn+1}) (Fm:={w' with drawn:=w'.drawn+1}) ⟨hw.heap,λi q=>?_⟩ ⟨rfl,rfl,rfl,au,ay _⟩ rfl ⟨⟨rfl,rfl,rfl,au,ay _⟩,Ren.le_refl _,λ_ _ h=>.inl h,λ_ _ _=>rfl⟩ (d0:=#[]) (λe he=>by simp at he) (λT n d=>?_) ?_
  ·have:=hw.tape (1+i) q;simpa[Nat.add_assoc] using this
  ·simp only[aiQ,if_neg hq];rw[show w.tape w.drawn q=_ from(d 0 aa q).symm];rfl
  ·simp only[Nat.add_zero] at c;simp only[akd,if_neg hq,Array.append_empty];rw[c]
def SR.quiet{m:Mark}{k:Sem α}{k':Sem β}(hq:Quiet m)(h:SR P K R φ k k'):SR P K R φ (.mark m k) (.mark m k'):=λw w' es hw=>
 .step 0 h hw (.refl w) rfl (.refl _ _ _ _) (d0:=#[⟨.mark m,Ba,AT⟩]) (λe he=>by simp at he;subst he;exact .inr (.inr ⟨m,rfl,hq⟩)) (λ_ _ _=>rfl) (by simp[akd])
end
end
end
end Go.Proofs.Q0.aM
