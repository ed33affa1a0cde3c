import Derived.Test.YtfmnlpedhgficaaGreatDoorK10
import Derived.LaidEql
import Derived.Stop.Asserts
import Derived.RowKitTokens
import Derived.Conc.WgGenN3
set_option maxRecDepth 100000
set_option maxHeartbeats 8000000
set_option linter.all false
open Go.Value renaming int->U,slice->Y,bool->a5,agg->a9,pointer->bi,tuple->ci,iface->em
open Go.IntKind renaming i64->O
open Go.Obj renaming cells->ac
open Go.Ending renaming returned->be
open And renaming intro->Vn
open Bool renaming false->Bz,true->AT
open Go renaming Addr->ajF,Calls->aiK,TypeId->TO,Value->so,World->AS,bodyPost_ret->ajz,run_underlying->alP
open Go.Extern.ReflectliteType renaming method->alU,typeOf->alT
open Go.Instr renaming typeAssert->akc
open Go.IntKind renaming i64->EV,u8->akN
open Go.Value renaming slice->aki
open List renaming append_assoc->ajH,getElem?_eq_getElem->ajK,replicate->rl,replicate_succ->akg,set_append_right->alr,set_cons_zero->ajx,take_of_length_le->ake
open Nat renaming sub_self->akF
open Option renaming none->ns,some->an
namespace Go.Proofs
abbrev j6:=@Option.map_eq_some_iff
def vl{p:Prop}(h:p:=by simp[results,Tryz.results75,go_sem]):p:=h
def DC{p:Prop}(h:p:=by go_wp2;refine bodyPost_ret (v:=ci #[Y none 0 0,a5 false]) vl rfl ?_;rw[rC.out];exact zr rfl q1):p:=h
def KY{p:Prop}(h:p:=by clear h1 hm;go_enter Gz.gf func75,ntmps75;go_wp2;refine bodyPost_ret (v:=ci #[Y none 0 0,a5 false]) vl rfl ?_;exact zr rfl (Q.refl _)):p:=h
def rX{p:Prop}(h:p:=by rw[Hn.out];omega):p:=h
def yW{p:Prop}(h:p:=by rw[Jb.out];omega):p:=h
def La{p:Prop}(h:p:=by
  go_wp2;go_loopw[5] (λi wr=>∃k:Nat,k<=n/\i=U O k/\(∃d,wr=w.drewN d)/\Hid (xs.take k=ys.take k)) (λi _=>n-(intOf i).toNat)
  case atStart=>exact⟨0,dk _,rfl,⟨0,rfl⟩,by simp[Hid]⟩
  case round=>
   obtain⟨k,hk,rfl,⟨d,rfl⟩,ht⟩:=hrel;by_cases aV:k<n
   ·obtain⟨b,o,rfl,_,hc⟩:=hx rX;obtain⟨b',o',rfl,_,VE⟩:=hy yW;have h1:=hc k rX;have h2:=VE k yW;clear hc VE hx hy;by_cases he:xs[k]?.getD 0=ys[k]?.getD 0
    ·have he':((xs[k]?.getD 0) !=(ys[k]?.getD 0))=false:=by simp[he]
     have He:=af he;clear he;go_wp2
     go_quiet(fail)
     go_wp2;go_roundw;case rel=>exact⟨k+1,aa,aF,⟨_,by first|rfl|exact World.drewN_drewN _ _ _⟩,Yi rX yW ht.out He.out⟩
     case measure=>exact aT
    ·have he':((xs[k]?.getD 0) !=(ys[k]?.getD 0))=true:=by simp[he]
     have He:=af he;clear he;go_wp2
     go_quiet(fail)
     go_wp2;go_ret;refine⟨?_,⟨_,by first|rfl|exact World.drewN_drewN _ _ _⟩⟩
     have:(xs==ys)=false:=by rw[beq_eq_false_iff_ne];intro e;exact He.out oH
     rw[this];rfl
   ·go_wp2;go_ret
    have:(xs==ys)=true:=by rw[beq_iff_eq];have h:=ht.out;have:k=n:=aa;rw[List.take_of_length_le rX,List.take_of_length_le yW] at h;exact h
    exact⟨by rw[this];rfl,_,rfl⟩):p:=h
def Lb{p:Prop}(h:p:=by
  go_wp2;go_ret
  have:(xs==ys)=false:=by rw[beq_eq_false_iff_ne];intro e;exact Hl.out (by rw[<-Hn.out,<-Jb.out,e])
  exact⟨by rw[this];rfl,0,rfl⟩):p:=h
def Ms{p:Prop}(h:p:=by go_wp2;refine wp_loop_rounds 1 ?_;rw[rounds_succ];go_wp2;go_ret;exact⟨aj,hx,World.grownBy.refl _ _⟩):p:=h
def Lc{p:Prop}(h:p:=by go_wp2;go_ret;have:k=n:=aa;subst this;exact⟨rfl,by simpa[List.drop_of_length_le (Nat.le_of_eq Hl.out)] using ip,li⟩):p:=h
def uW{p:Prop}(h:p:=by rw[xK.out];omega):p:=h
def DD{p:Prop}(h:p:=by go_enter Gz.gf func41,ntmps41;go_wp2;go_ret;exact⟨rfl,rfl⟩):p:=h
def DU{p:Prop}(h:p:=by go_wp2;go_ret;exact⟨⟨_,rfl,.inl aa⟩,rfl⟩):p:=h
def eD{p:Prop}(h:p:=by rw[HN.out];omega):p:=h
def yJ{p:Prop}(h:p:=by rw[<-HN.out];exact hi):p:=h
end Go.Proofs
namespace Go.Proofs.Q0
open Go.Proofs.Tryz
variable{a b:ajF}{w w':AS}{P:Program}{n B k:Nat}{xs:List Int}{A:Option ajF}{ls:List (List Int)}{v:so}
section
open Go.RowKit Go.WideShapes Go.ChangeShapes Go.Extern.Stop Go.Stop Go.Extern
def dz(w:AS)(a:ajF):Prop:=∃o,w.heap[a.block]?=an o/\(∀x y,o≠.view x y)/\∀cs t f,o≠ac cs t f
def dz.q(h:dz w a)(q:Q w w'):dz w' a:=by obtain⟨o,h1,c⟩:=h;exact⟨o,(q.block _ (bE.1 h1).1).trans h1,c⟩
def dz.plain(h:dz w a):w.frozen? a=Bz/\w.shape? a.block=ns:=by obtain⟨o,h1,_,c⟩:=h;unfold World.frozen? World.shape?;rw[h1];cases o<;>first|exact absurd rfl (c _ _ _)|exact⟨rfl,rfl⟩
def dz.noView(h:dz w a):(noView a).run P w=.ok () w:=by
 have s1:=h.plain.2;obtain⟨o,h1,v1,_⟩:=h;have g:(getObj a.block).run P w=.ok o w:=by simp[getObj,Sem.run,h1]
 cases o<;>first|exact absurd rfl (v1 _ _)|simp[Go.noView,viewAt,s1,g]
def Yj(f:dz w a)(g:dz w b):(sameAddr a b).run P w=.ok (a==b) w:=by
 by_cases c:a.block=b.block
 ·simp[sameAddr,c]
 ·have d:(a==b)=Bz:=by rw[beq_eq_false_iff_ne];intro e;exact c oH
  rw[d];obtain⟨f1,s1⟩:=f.plain;obtain⟨f2,s2⟩:=g.plain;have h:=f.noView (P:=P);have i:=g.noView (P:=P);simp[sameAddr,c,f1,f2,s1,s2,h,i,mayBeOne,stringish]
def ZH(o:dz w a)(p:dz w b){g f m:TO}{q:Array (String×TO)}{i j:TypeInfo}(hi:P.underlying g=an (.interface q))(r:P.underlying f=an (.pointer m))(c:P.info? f=an i)(e:i.comparable=AT)(h:P.info? m=an j)(l:j.size≠0):
  (binOp .eql g (em f (bi (an a))) (em f (bi (an b)))).run P w=.ok (a5 (a==b)) w:=by
 have he:∀d:Nat,(Op.equalIn (d+2) g (em f (bi (an a))) (em f (bi (an b)))).run P w=.ok (a==b) w:=λd=>by have s:=Yj (P:=P) o p;simp[Op.equalIn,alP hi,alP r,typeInfo,c,e,sizeOf,h,l,samePointer,s]
 simp only[binOp];simp[Op.equal,Op.maxDepth,he 9998]
def afp:(Gz.prog.info? 240).map (·.comparable)=an AT:=aE
def afq:(Gz.prog.info? 266).map (·.size)=an 1:=aE
def afr(d:dz w a)(e:dz w b):(binOp .eql 153 (em 240 (bi (an a))) (em 240 (bi (an b)))).run Gz.prog w=.ok (a5 (a==b)) w:=by obtain⟨i,hi,c⟩:=j6.1 afp;obtain⟨j,f,g⟩:=j6.1 afq;exact ZH d e (Gz.gu underlying153) (Gz.gu underlying240) hi c f aa
def ach(v:so)(w:AS):(alT #[em 240 v]).run Gz.prog w=.ok (em 212 (a9 #[bi (an ⟨5,240,ns⟩)])) w:=aE
def Yk(w:AS):((alU λt=>do Rtype.noPackHeld "Comparable" t;Functor.map (λa=>Value.bool a.comparable) (typeInfo t)) #[a9 #[bi (an ⟨5,240,ns⟩)]]).run Gz.prog w=.ok (a5 AT) w:=ah
def WW(v:so)(w:AS):(Go.method 377 212 v "Comparable").run Gz.prog w=.ok (221,v) w:=aE
def agl(v:so)(c:TO)(w:AS):(akc (em 240 v) c 214 AT).run Gz.prog w=.ok (ci #[.nilIface,a5 Bz]) w:=run_typeAssert_lacksB (Gz.gu underlying214) ah ah v c w
def aaP(v:so)(c:TO)(w:AS):(akc (em 240 v) c 217 AT).run Gz.prog w=.ok (ci #[.nilIface,a5 Bz]) w:=run_typeAssert_lacksB (Gz.gu underlying217) ah ah v c w
def ZI(v:so)(c:TO)(w:AS):(akc (em 240 v) c 219 AT).run Gz.prog w=.ok (ci #[.nilIface,a5 Bz]) w:=run_typeAssert_lacksB (Gz.gu underlying219) ah ah v c w
def aci(d:dz w a)(f:dz w b):
  aiK Gz.prog 146 #[em 240 (bi (an a)),em 240 (bi (an b)),a5 AT] w λe w'=>e=be (a5 (a==b))/\w'=w:=by
 have c:=afr d f;have j:=agl;have l:=aaP;have m:=ZI;obtain⟨t,g⟩:∃t,(a==b)=t:=⟨_,rfl⟩;rw[g] at c⊢;go_enter Gz.gf func146,ntmps146;go_wp2;go_loopw[0] (λh i=>i=w/\h=em 240 (bi (an a))) (λ_ _=>0)
 case atStart=>exact⟨rfl,rfl⟩
 case round=>cases t with|true=>go_wp2;go_ret;exact⟨rfl,rfl⟩|false=>go_wp2;go_ret;exact⟨rfl,rfl⟩
def FD(d:dz w a)(f:dz w b):
  aiK Gz.prog 115 #[em 240 (bi (an a)),em 240 (bi (an b))] w λe w'=>e=be (a5 (a==b))/\w'=w:=by
 have g:=@run_callFunc_extern Gz.prog 145 _ alT (Gz.gf func145) ah ah ah ah;have h:=@run_callFunc_extern Gz.prog 221 _ (alU λt=>do Rtype.noPackHeld "Comparable" t;pure (a5 (<-typeInfo t).comparable)) (Gz.gf func221) ah ah ah ah;have i:=ach;have j:=Yk;have l:=WW;have c:=aci d f;go_enter Gz.gf func115,ntmps115;go_wp2_with(first|(go_at_call 146;refine c.mono ?_;rintro e w'⟨rfl,rfl⟩)|go_in);go_ret;exact⟨rfl,rfl⟩
def Nj(b:ajF):
  aiK Gz.prog 115 #[.nilIface,em 240 (bi (an b))] w λe w'=>e=be (a5 Bz)/\w'=w:=by
 have c:=run_eql_iface_nil_left (P:=Gz.prog) w 240 (bi (an b)) (Gz.gu underlying153);go_enter Gz.gf func115,ntmps115;go_wp2;go_ret;exact⟨rfl,rfl⟩
end
section
open Go.RowKit Go.WideShapes Go.ChangeShapes
def fj(data:List Int)(n:Int)(ap:Bool):Option (List Int):=
 if 1<=n/\n<=4 then
  match(eR ap n.toNat (eG data,0)).1 with
  |none=>ns
  |some xs=>
   match eI ap xs n.toNat with
   |some ys=>if strOfNums ys=strOfNums data then an xs else ns
   |none=>ns
 else ns
def ad6{data:List Int}(n:Int)(ap:Bool)(c:bytes data):fj data n ap=BN data n ap:=by
 unfold fj BN;split
 ·rename_i j;cases d:(eR ap n.toNat (eG data,0)).1 with
  |none=>rfl
  |some xs=>
   dsimp only;have f:=Ew ap _ _ d;cases hq:eI ap xs n.toNat with
   |none=>rw[if_neg λh=>by cases h]
   |some g=>
    dsimp only;have i:=Ol f aa aa hq;rw[Rt c];by_cases h:g=data
    ·simp_all
    ·rw[if_neg λe=>h (Pb i c e),if_neg λe=>h mO]
 ·rfl
def ad7(w:AS):(binOp .eql 62 (Y ns 0 0) (Y ns 0 0)).run Gz.prog w=.ok (a5 AT) w:=aE
def ad8(g:ajF)(n c:Nat)(w:AS):(binOp .eql 62 (Y (an g) n c) (Y ns 0 0)).run Gz.prog w=.ok (a5 Bz) w:=aE
def FE(R:Option (List Int))(n:Nat)(w:AS)(e:Ending)(w':AS):Prop:=
  (match R with
   |an L=>∃v,e=be (ci #[v,a5 AT])∧ay 97 71 w' w.heap.size v n L
   |ns=>e=be (ci #[Y ns 0 0,a5 Bz]))∧Q w w'
def zr{e:Ending}(he:e=be (ci #[Y ns 0 0,a5 Bz]))(q:Q w w'):FE ns n w e w':=⟨he,q⟩
def Nk(c:Nat)(many:Int)(ap:Bool){h i:ajF}(hx:bB w B A xs)(hn:xs.length=n)(hc:n<=c/\c<=maxLen)(K:B<=w.heap.size)(he:gw w h i B)(k1:dz w h)(k2:dz w i):
  aiK Gz.prog 75 #[Y A n c,U O many,a5 ap] w (FE (fj xs many ap) many.toNat w):=by
 obtain⟨R,o⟩:∃z,fj xs many ap=z:=⟨_,rfl⟩;rw[o];unfold fj at o;by_cases hm:1<=many/\many<=4
 ·rw[if_pos hm] at o;obtain⟨N,rfl⟩:∃N:Nat,many=(N:Int):=⟨many.toNat,aa⟩;rw[Int.toNat_natCast] at o⊢;obtain⟨m1,m4⟩:=hm;have d1:decide ((N:Int)<1)=Bz:=decide_eq_false aa;have d2:decide ((4:Int)<(N:Int))=Bz:=decide_eq_false aa;have C:=af (aax N ap hx hn hc K he aa);have D:=af o;have HX:=af hx;have Do:=af hn;have HE:=af he;have M:=af k1;have Q:=af k2;clear o hx hn he k1 k2;go_enter Gz.gf func75,ntmps75;go_wp2;refine C.out.mono ?_;rintro e w1⟨hP,q1⟩;clear C;have p:∀r,(eR ap N (eG xs,0)).1=an r->r.length=N*71:=λr=>Ew ap N (eG xs,0);cases hs:eR ap N (eG xs,0) with
  |mk S k=>
   rw[hs] at hP;have d:=D.out;rw[hs] at d p;clear D hs;have m:=(HE.out.q q1 K).e1;have s:=(HE.out.q q1 K).e2;have x:=M.out.q q1;have y:=Q.out.q q1;cases S with
   |none=>
    obtain⟨hk,rfl⟩:=hP;have rC:Hid (R=ns):=d.symm;by_cases h1:k=1
    ·rw[h1];have u:=FD x x;rw[beq_self_eq_true] at u;have HI:=af u;have ev:lz h i 1=em 240 (bi (an h)):=rfl;rw[ev] at m⊢;clear u ev d x y M Q;go_wp2;refine HI.out.mono ?_;rintro e wi⟨rfl,rfl⟩;exact DC
    ·have ev:∀j,j≠0->j≠1->lz h i j=em 240 (bi (an i)):=λj h0 h1=>by
      rcases j with _|_|j
      ·exact absurd rfl h0
      ·exact absurd rfl h1
      ·rfl
     rw[ev k hk h1];rw[ev 2 al al] at s;rw[show lz h i 1=em 240 (bi (an h)) from rfl] at m;have u:=af (FD y x);have hJ:=FD y y;rw[beq_self_eq_true] at hJ;have HJ:=af hJ;obtain⟨t,ht⟩:∃t,(i==h)=t:=⟨_,rfl⟩;rw[ht] at u;clear hJ ev d x y M Q ht;cases t with
     |true=>go_wp2;refine u.out.mono ?_;rintro e wi⟨rfl,rfl⟩;exact DC
     |false=>go_wp2;refine u.out.mono ?_;rintro e wi⟨rfl,rfl⟩;go_wp2;refine HJ.out.mono ?_;rintro e wi⟨rfl,rfl⟩;exact DC
   |some L=>
    obtain⟨v,rfl,T⟩:=hP;dsimp only at d;have hLl:=p L rfl;obtain⟨g,cg,rfl⟩:=T.gC aa;rw[show lz h i 1=em 240 (bi (an h)) from rfl] at m;rw[show lz h i 2=em 240 (bi (an i)) from rfl] at s;have E:=af (Nj (w:=w1) h);have F:=af (Nj (w:=w1) i);have G:=af (Yg ap T aa aa);have O1:=af T;have H:=af d;clear T d p x y M Q;go_wp2;refine E.out.mono ?_;rintro e wi⟨rfl,rfl⟩;go_wp2;refine F.out.mono ?_;rintro e wi⟨rfl,rfl⟩;go_wp2;refine G.out.mono ?_;rintro e w2⟨v2,rfl,I,l,q2⟩;have V:=q1.trans q2;have O3:=af (O1.out.q q2);have X3:=af (HX.out.q V K);clear G E F m s q1;cases hq:eI ap L N with
    |none=>have hv:=l hq;subst hv;have d:=H.out;rw[hq] at d;have rC:Hid (R=ns):=d.symm;clear hq d I l;have en:=ad7;go_wp2;refine ajz (v:=ci #[Y ns 0 0,a5 Bz]) vl rfl ?_;rw[rC.out];exact zr rfl V
    |some W=>
     rw[hq,Option.getD_some] at I;have d:=H.out;rw[hq] at d;dsimp only at d;have J:W≠[]:=λe=>by rw[e] at hq;exact adS hq
     have hyl:0<W.length:=List.length_pos_iff.2 J;rcases I.dE with⟨_,h0⟩|⟨g2,c2,rfl,_⟩
     ·omega
     have X:=af (Zz W.length c2 c I.rd rfl X3.out Do.out);clear hq l I J;have en:=ad8;by_cases f:strOfNums W=strOfNums xs
     ·rw[if_pos f] at d;have rC:Hid (R=an L):=d.symm;rw[decide_eq_true f] at X;clear d f;go_wp2;refine X.out.mono ?_;rintro e w4⟨rfl,Z⟩;go_wp2;refine ajz (v:=ci #[Y (an ⟨g,0,ns⟩) N cg,a5 AT]) vl rfl ?_;rw[rC.out];exact⟨⟨_,rfl,O3.out.q Z⟩,V.trans Z⟩
     ·rw[if_neg f] at d;have rC:Hid (R=ns):=d.symm;rw[decide_eq_false f] at X;clear d f;go_wp2;refine X.out.mono ?_;rintro e w4⟨rfl,Z⟩;go_wp2;refine ajz (v:=ci #[Y ns 0 0,a5 Bz]) vl rfl ?_;rw[rC.out];exact zr rfl (V.trans Z)
 ·rw[if_neg hm] at o;subst o;by_cases h1:many<1
  ·have d1:decide (many<1)=AT:=decide_eq_true h1;exact KY
  ·have d1:decide (many<1)=Bz:=decide_eq_false h1;have d2:decide (4<many)=AT:=decide_eq_true aa;exact KY
end
section
open Go.RowKit Go.WideShapes Go.ChangeShapes
abbrev aR(ls:List (List Int))(i:Nat):List Int:=ls[i]?.getD []
def ej(ls:List (List Int))(k:Nat):Nat:=((ls.take k).map List.length).sum
def Qi(ls:List (List Int)):ej ls 0=0:=aE
def Ak(ls:List (List Int))(k:Nat)(h:k<ls.length):ej ls (k+1)=ej ls k+(aR ls k).length:=by unfold ej aR;rw[List.take_add_one,List.map_append,List.sum_append,ajK h];simp
def Qj(ls:List (List Int))(k:Nat):∀d,ej ls k<=ej ls (k+d)
 |0=>av _
 |d+1=>by
  refine aI (Qj ls k d) ?_;by_cases h:k+d<ls.length
  ·rw[show k+(d+1)=(k+d)+1 by omega,Ak ls _ h];omega
  ·unfold ej;rw[ake (show ls.length<=k+d by omega),ake (show ls.length<=k+(d+1) by omega)];exact av _
def Sv(ls:List (List Int))(h:k<=n):ej ls k<=ej ls n:=by have:=Qj ls k (n-k);rw[show k+(n-k)=n by omega] at this;exact this
def F8(ls:List (List Int))(h:k<ls.length):(aR ls k).length<=ej ls ls.length:=by have h1:=Ak ls k h;have c:=Sv ls (show k+1<=ls.length from h);omega
def dH(w:AS)(B:Nat)(A:Option ajF)(ls:List (List Int)):Prop:=
 0<ls.length->∃b o,A=an ⟨b,o,ns⟩/\b<B/\∀i,i<ls.length->∃d c,w.cell? ⟨b,o+i,ns⟩=an (Y d (aR ls i).length c)/\bB w B d (aR ls i)/\(aR ls i).length<=c/\c<=maxLen
def dH.keep(h:dH w B A ls)(c:∀b o,b<B->w'.cell? ⟨b,o,ns⟩=w.cell? ⟨b,o,ns⟩):dH w' B A ls:=λe=>by obtain⟨b,o,rfl,d,hc⟩:=h e;refine⟨b,o,rfl,d,λi hi=>?_⟩;obtain⟨f,g,h1,j,l⟩:=hc i hi;exact⟨f,g,(c b _ d).trans h1,j.keep c,l⟩
def dH.q(h:dH w B A ls)(hq:Q w w')(c:B<=w.heap.size):dH w' B A ls:=h.keep λb o d=>hq.cell b o aa
def dH.more{B':Nat}(h:dH w B A ls)(c:B<=B'):dH w B' A ls:=λd=>by obtain⟨b,o,rfl,l,hc⟩:=h d;refine⟨b,o,rfl,aa,λi hi=>?_⟩;obtain⟨e,f,h1,g,j⟩:=hc i hi;exact⟨e,f,h1,g.more c,j⟩
def dH.az{S:List Nat}(h:dH w B A ls)(k:au S w w')(d:B<=w.heap.size)(c:∀g,g∈S->B<=g):dH w' B A ls:=
 h.keep λb o f=>nK k aa (λe=>by have:=c b e;omega)
structure fp(w:AS)(lo hi:Nat)(v:so)(ls:List (List Int))(vs:List so):Prop where
 len:vs.length=ls.length
 row:w.ownsRow lo 62 1 v ls.length vs
 top:∀s,v.ownBlock=an s->s<hi
 el:∀i,i<ls.length->aK w lo (vs[i]?.getD undef) (aR ls i).length (aR ls i)
 eh:∀i s,i<ls.length->(vs[i]?.getD undef).ownBlock=an s->s<hi/\v.ownBlock≠an s
 ne:∀i j s,i<j->j<ls.length->(vs[i]?.getD undef).ownBlock=an s->(vs[j]?.getD undef).ownBlock≠an s
section
variable{w w':AS}{lo hi:Nat}{v:so}{ls:List (List Int)}{vs:List so}
theorem E5(o:Option Nat):o=ns\/o≠ns:=by grind
def fp.q(h:fp w lo hi v ls vs)(q:Q w w'):fp w' lo hi v ls vs:=
 ⟨h.len,h.row.kept (row:=ns) ⟨q.os,q.tape,q.output,q.size,λk c _=>q.block k c⟩ (E5 _),h.top,λi hi=>(h.el i hi).q q,h.eh,h.ne⟩
def fp.az{S:List Nat}(h:fp w lo hi v ls vs)(k:au S w w')(hS:∀g,g∈S->hi<=g\/g<lo):fp w' lo hi v ls vs:=by
 have c:∀{e:TO}{u:so}{n:Nat}{us:List so},w.ownsRow lo e 1 u n us->(∀s,u.ownBlock=an s->s<hi)->w'.ownsRow lo e 1 u n us:=λ{e u n us} h1 l=>by
  refine⟨h1.1,?_⟩;rcases h1.2 with p|⟨g,d,f,rfl,m,j,r⟩
  ·simp_all
  ·refine .inr ⟨g,d,f,rfl,m,(k.block g (bE.1 j).1 λe=>?_).trans j,r⟩;have:=l g rfl;have:=hS g e;omega
 exact⟨h.len,c h.row h.top,h.top,λi hi=>⟨(h.el i hi).1,c (h.el i hi).2 λs o=>(h.eh i s hi o).1⟩,h.eh,h.ne⟩
def fp.rd(h:fp w lo hi v ls vs){c:Nat}(m:v=Y A n c)(t:hi<=w.heap.size):dH w w.heap.size A ls:=λo=>by
 subst m;obtain⟨g,p,q,u,r⟩:=h.row.form o;injection q with h1 s x;subst h1 s;refine⟨g,0,rfl,r,λi hi=>?_⟩;have hc:=h.row.cells (g:=g) rfl i;have he:=h.el i hi;obtain⟨j,l,hu⟩:=he.form
 have d:vs[i]?=an (Y j (aR ls i).length l):=by
  have:i<vs.length:=by rw[h.len];exact hi
  rw[ajK this] at hu⊢;simpa using hu
 rw[hu] at he;refine⟨j,l,?_,he.rd,?_⟩
 ·have f:=hc _ d;by_cases h0:i=0
  ·subst h0;simpa[Addr.add] using f
  ·simpa[Addr.add,h0] using f
 ·rcases he.dE with⟨e,h0⟩|⟨_,_,e,_,_,f,y⟩
  ·simp_all
  ·simp_all
theorem fp.form(h:fp w lo hi v ls vs):∃A c,v=Y A ls.length c/\ls.length<=c/\c<=maxLen:=by
 rcases h.row.2 with⟨e,h0⟩|⟨g,d,f,e,_,_,h1,i,_⟩
 ·grind
 ·grind
end
end
section
open Go.RowKit
def Yi{ys:List Int}(c:k<xs.length)(d:k<ys.length)(h:xs.take k=ys.take k)(he:xs[k]?.getD 0=ys[k]?.getD 0):xs.take (k+1)=ys.take (k+1):=by rw[DO c,DO d,h,he]
def afs{i:Option ajF}{f:Nat}(c j:Nat){B':Nat}{ys:List Int}(hx:Rd w B A xs)(hy:Rd w B' i ys)(g:xs.length=n)(d:ys.length=f)(l:n<=maxLen)(m:f<=maxLen):
  aiK Gz.prog 38 #[Y A n c,Y i f j] w λe w'=>e=be (a5 (xs==ys))/\∃k,w'=w.drewN k:=by
 unfold maxLen at l m;have Hn:=af g;have Jb:=af d;by_cases h:n=f
 ·subst h;clear g d;go_enter Gz.gf func38,ntmps38;exact La
 ·have o:((n:Int) !=(f:Int))=AT:=by rw[bne_iff_ne];omega
  have Hl:=af h;clear h g d;go_enter Gz.gf func38,ntmps38;exact Lb
def eS(k:Int):Nat->List Int
 |0=>[]
 |n+1=>k::eS (k+1) n
def zt(k:Int)(n:Nat):(eS k n).length=n:=by induction n generalizing k with|zero=>rfl|succ n c=>simp[eS,c]
def ZJ(k:Int)(n i:Nat)(h:i<n):(eS k n)[i]?.getD 0=k+i:=by
 induction n generalizing k i with
 |zero=>omega
 |succ n c=>cases i with|zero=>simp[eS]|succ i=>simp only[eS,List.getElem?_cons_succ,c (k+1) i aa];omega
def YQ(k:Int)(n:Nat):eS k (n+1)=eS k n++[k+n]:=by induction n generalizing k with|zero=>simp[eS]|succ n c=>rw[eS,c,eS];simp;omega
def aaQ{k:Int}{i:Nat}(h:i<xs.length):(eS k i++xs.drop i).set i (k+i)=eS k (i+1)++xs.drop (i+1):=by rw[YQ,alr _ _ (by rw[zt];omega),zt,akF,List.drop_eq_getElem_cons h,ajx,ajH];rfl
def aaR(xs:List Int)(k:Nat)(h:k<xs.length):(xs.take k++rl (xs.length-k) 0).set k (xs[k]?.getD 0)=xs.take (k+1)++rl (xs.length-(k+1)) 0:=by rw[DO h,alr _ _ aA];rw[show xs.length-k=(xs.length-(k+1))+1 by omega,akg];simp[show k-min k xs.length=0 by omega]
def acj{d:Int}(hx:Own w B v n xs)(o:0<=d)(p:d<=1000000000000)(t:n<=1000000000000):
  aiK Gz.prog 26 #[v,U O d] w λe w'=>e=be (U O (d+n))/\Own w' B v n (eS d n)/\w.grownBy w' v.ownBlock:=by
 have Hl:=af hx.len;rcases hx.dE with⟨rfl,rfl⟩|⟨g,c,rfl,u,x,_,_⟩
 ·have j:xs=[]:=List.length_eq_zero_iff.1 Hl.out;subst j;go_enter Gz.gf func26,ntmps26;exact Ms
 ·go_enter Gz.gf func26,ntmps26;go_wp2;go_loopw[1,5] (λq i wr=>∃k:Nat,k<=n/\i=U O k/\q=U O (d+k)/\w.grownBy wr (an g)/\Own wr B (Y (an ⟨g,0,ns⟩) n c) n (eS d k++xs.drop k)) (λ_ i _=>n-(intOf i).toNat)
  case atStart=>exact⟨0,dk _,rfl,aj,World.grownBy.refl _ _,by simpa[eS] using hx⟩
  case round=>
   obtain⟨k,y,rfl,rfl,li,ip⟩:=hrel;clear hx;by_cases f:k<n
   ·have z:=ip.at k f;have C:=ip.free k;have l:=ip.set k (d+k);have m:=su li k (U O (d+k));have r:=af l;have s:=af m;clear l m li ip;go_wp2;go_roundw;case rel=>exact⟨k+1,aa,aF,aF,s.out,by have h:=r.out;rw[aaQ (by rw[Hl.out];exact f)] at h;exact h⟩
    case measure=>exact aT
   ·exact Lc
def ack(f:Int)(w:AS)(j:Own w B v n (eS f n))(l:0<=f)(m:f<=1000000000000)(p:n<=1000000000000):
  aiK Gz.prog 27 #[v,U O f] w λe w'=>e=be (U O (f+n))/\∃d,w'=w.drewN d:=by
 rcases j.dE with⟨rfl,rfl⟩|⟨g,c,rfl,r,s,_,_⟩
 ·go_enter Gz.gf func27,ntmps27;go_wp2;refine wp_loop_rounds 1 ?_;rw[rounds_succ];go_wp2;go_ret;exact⟨aj,0,rfl⟩
 ·go_enter Gz.gf func27,ntmps27;go_wp2;go_loopw[1,5] (λq i wr=>∃k:Nat,k<=n/\i=U O k/\q=U O (f+k)/\∃d,wr=w.drewN d) (λ_ i _=>n-(intOf i).toNat)
  case atStart=>exact⟨0,dk _,rfl,aj,0,rfl⟩
  case round=>
   obtain⟨k,t,rfl,rfl,d,rfl⟩:=hrel;by_cases h:k<n
   ·have o:=j.at k h;rw[ZJ _ _ _ h] at o;clear j;go_wp2;go_roundw;case rel=>exact⟨k+1,aa,aF,aF,⟨_,by first|rfl|exact World.drewN_drewN _ _ _⟩⟩
    case measure=>exact aT
   ·go_wp2;go_ret;have:k=n:=aa;subst this;exact⟨rfl,d,rfl⟩
end
section
open Go.RowKit
def ad9:(Gz.prog.info? 5).map (λi=>(i.zero,i.size,i.bytes))=an (an (.int .u8 0),1,1):=aE
def aea(n c:Nat)(s:bB w B A xs)(t:xs.length=n)(H:n*8<=281474976710656)(I:B<=w.heap.size):
  aiK Gz.prog 50 #[Y A n c] w λe w'=>∃v,e=be v/\aK w' w.heap.size v n xs/\Q w w':=by
 have Hn:=af t;clear t;obtain⟨i0,hi,l,hz1,hz2⟩:=info_parts ad9;have C:=af hi;clear hi;have q:=af l;clear l;have r:=af hz1;clear hz1;have xK:=af hz2;clear hz2;have D:n<=9223372036854775807:=aa;go_enter Gz.gf func50,ntmps50;go_wp2_with(at_make;refine wpList_make_full _ rfl (.tmp 6) (.tmp 6) 62 rfl w.heap.size 5 i0 (.int .u8 0) 1 (Gz.gu underlying62) C.out q.out r.out .i64 .i64 n n n rfl rfl rfl rfl uW kT (av _) ?_;intro u j d);have E:=d.size;have x:aK u w.heap.size (Y (an ⟨w.heap.size,0,ns⟩) n n) n (rl n 0):=⟨aj,by simpa[Value.cells,toList_madeCells_one] using j⟩;have hq:Q w u:=Q.iS d;clear j d;go_loopw[4] (λi wr=>∃k:Nat,k<=n/\i=U O k/\Q w wr/\aK wr w.heap.size (Y (an ⟨w.heap.size,0,ns⟩) n n) n (xs.take k++rl (n-k) 0)) (λi _=>n-(intOf i).toNat)
 case atStart=>exact⟨0,dk _,rfl,hq,by simpa using x⟩
 case round=>
  obtain⟨k,J,rfl,g,f⟩:=hrel;clear hq x;by_cases m:k<n
  ·obtain⟨b,o,rfl,K,hc⟩:=s rX;have h1:wr.cell? ⟨b,o+k,ns⟩=_:=(g.cell b _ aa).trans (hc k rX);have L:=f.at k m;have M:=f.free k;have y:=f.set k (xs[k]?.getD 0);have z:=g.set (p:=⟨w.heap.size,k,ns⟩) (av _) (.int .u8 (xs[k]?.getD 0));have F:=af y;have G:=af z;clear y z g f hc s;go_wp2;go_roundw;case rel=>exact⟨k+1,aa,aF,G.out,by have h:=F.out;rw[<-Hn.out,aaR xs k (by rw[Hn.out];exact m),Hn.out] at h;exact h⟩
   case measure=>exact aT
  ·go_wp2;go_ret;have:k=n:=aa;subst this;exact⟨_,rfl,by simpa[ake (Nat.le_of_eq Hn.out)] using f,g⟩
def aeb(A i:Option ajF){f:Nat}(c j B B':Nat)(xs ys:List Int)(w:AS)(hx:bB w B A xs)(hy:bB w B' i ys)(g:xs.length=n)(d:ys.length=f)(l:n<=maxLen)(m:f<=maxLen):
  aiK Gz.prog 62 #[Y A n c,Y i f j] w λe w'=>e=be (a5 (xs==ys))/\∃k,w'=w.drewN k:=by
 unfold maxLen at l m;have Hn:=af g;have Jb:=af d;by_cases h:n=f
 ·subst h;clear g d;go_enter Gz.gf func62,ntmps62;exact La
 ·have o:((n:Int) !=(f:Int))=AT:=by rw[bne_iff_ne];omega
  have Hl:=af h;clear h g d;go_enter Gz.gf func62,ntmps62;exact Lb
def aec(A:Option ajF)(n c:Nat){l:Int}(w:AS)(h1:0<=l)(d:l<=1000000000000)(f:n<=9223372036854775807):
  aiK Gz.prog 41 #[Y A n c,U O l] w λe w'=>e=be (U O (if l<n then -1 else l-n))/\w=w':=by
 by_cases h:l<n
 ·rw[if_pos h];by_cases g:n<=4000000000000000000
  ·exact DD
  ·have hw:EV.wrap (l-(n:Int))=l-n:=aB _ ⟨aa,aa⟩;have hd:decide (l-(n:Int)<0)=AT:=aA;exact DD
 ·rw[if_neg h];exact DD
def ng(k:Int)(n:Nat):List Int:=(List.range n).map λi:Nat=>akN.wrap (k+(i:Int))
def Om(k:Int)(n:Nat):(ng k n).length=n:=by simp[ng]
def aaS(k:Int)(n:Nat):ng k (n+1)=ng k n++[akN.wrap (k+n)]:=by simp[ng,List.range_succ]
def ZK{k:Int}{i:Nat}(h:i<xs.length):(ng k i++xs.drop i).set i (akN.wrap (k+i))=ng k (i+1)++xs.drop (i+1):=by rw[alr _ _ (by rw[Om];omega),Om,akF,List.drop_eq_getElem_cons h,ajx,aaS,ajH];rfl
def aaT(d:Int)(hx:aK w B v n xs)(o:0<=d)(p:d<=1000000000000)(t:n<=1000000000000):
  aiK Gz.prog 40 #[v,U O d] w λe w'=>e=be (U O (d+n))/\aK w' B v n (ng d n)/\w.grownBy w' v.ownBlock:=by
 have Hl:=af hx.len;rcases hx.dE with⟨rfl,rfl⟩|⟨g,c,rfl,u,x,_,_⟩
 ·have j:xs=[]:=List.length_eq_zero_iff.1 Hl.out;subst j;go_enter Gz.gf func40,ntmps40;exact Ms
 ·go_enter Gz.gf func40,ntmps40;go_wp2;go_loopw[1,5] (λq i wr=>∃k:Nat,k<=n/\i=U O k/\q=U O (d+k)/\w.grownBy wr (an g)/\aK wr B (Y (an ⟨g,0,ns⟩) n c) n (ng d k++xs.drop k)) (λ_ i _=>n-(intOf i).toNat)
  case atStart=>exact⟨0,dk _,rfl,aj,World.grownBy.refl _ _,by simpa[ng] using hx⟩
  case round=>
   obtain⟨k,y,rfl,rfl,li,ip⟩:=hrel;clear hx;by_cases f:k<n
   ·have z:=ip.at k f;have C:=ip.free k;have l:=ip.set k (akN.wrap (d+k));have m:=su li k (.int .u8 (akN.wrap (d+k)));have r:=af l;have s:=af m;clear l m li ip;go_wp2;go_roundw;case rel=>exact⟨k+1,aa,aF,aF,s.out,by have h:=r.out;rw[ZK (by rw[Hl.out];exact f)] at h;exact h⟩
    case measure=>exact aT
   ·exact Lc
end
section
open Go.RowKit Go.WideShapes Go.ChangeShapes
def acm(c:Nat){l:Int}(u:dH w B A ls)(y:ls.length=n)(h1:0<=l)(L:l<=1000000000000)(hm:n<=9223372036854775807):
  aiK Gz.prog 28 #[Y A n c,U O l] w λe w'=>(∃r:Int,e=be (U O r)/\(r<0\/(r=l-n-ej ls n/\0<=r)))/\w=w':=by
 by_cases h:l<n
 ·by_cases E:n<=4000000000000000000
  ·go_enter Gz.gf func28,ntmps28;exact DU
  ·have hw:EV.wrap (l-(n:Int))=l-n:=aB _ ⟨aa,aa⟩;have hd:decide (l-(n:Int)<0)=AT:=aA;go_enter Gz.gf func28,ntmps28;exact DU
 ·have F:=af u;have HN:=af y;clear u y;have hw:EV.wrap (l-(n:Int))=l-n:=aB _ ⟨aa,aa⟩;have hd:decide (l-(n:Int)<0)=Bz:=aA;go_enter Gz.gf func28,ntmps28;go_wp2;clear hw hd;go_loopw[1,5] (λx i wr=>∃(k:Nat)(z:Int),k<=n/\i=U O k/\x=U O z/\0<=z/\z<=l/\Hid (z=l-n-ej ls k)/\w=wr) (λ_ i _=>n-(intOf i).toNat)
  case atStart=>refine⟨0,_,aa,rfl,rfl,aa,aa,?_,?_⟩<;>first|(rw[Hid,Qi];omega)|trivial|rfl
  case round=>
   obtain⟨k,z,M,rfl,rfl,C,N,D,rfl⟩:=hrel;by_cases G:k<n
   ·have H:(k:Int)<n:=by omega
    obtain⟨b,o,rfl,E,hc⟩:=F.out eD;obtain⟨I,J,g,j,p,q⟩:=hc k eD;have s:=Ak ls k eD;obtain⟨m,f⟩:∃m,(aR ls k).length=m:=⟨_,rfl⟩;rw[f] at g p s;unfold maxLen at q;have T:=af λw=>aec I m J w C aa aa;have K:=af s;clear hc j f s;by_cases d:z<m
    ·rw[if_pos d] at T;clear d;go_wp2;refine(T.out _).mono ?_;rintro e w'⟨rfl,rfl⟩;exact DU
    ·rw[if_neg d] at T;go_wp2;refine(T.out _).mono ?_;rintro e w'⟨rfl,rfl⟩;have hd:decide (z-(m:Int)<0)=Bz:=aA;go_wp2;go_roundw;case rel=>exact⟨k+1,_,aa,aF,rfl,aa,aa,by rw[Hid,D.out,K.out];omega,trivial⟩
     case measure=>exact aT
   ·have t:k=n:=by omega
    subst t;go_wp2;go_ret;exact⟨⟨_,rfl,.inr ⟨D.out,C⟩⟩,rfl⟩
def aed:(Gz.prog.info? 62).map (λi=>(i.zero,i.size,i.bytes))=an (an (Y ns 0 0),1,24):=aE
def Qk{vs:List so}(h:vs.length=k)(c:k<n)(u:so):(vs++rl (n-k) (aki ns 0 0)).set k u=(vs++[u])++rl (n-(k+1)) (aki ns 0 0):=by rw[alr _ _ aa,h,akF,show n-k=(n-(k+1))+1 by omega,akg,ajx,ajH];rfl
theorem sI(vs:List so)(u:so)(i:Nat)(h:i<vs.length):(vs++[u])[i]?.getD undef=vs[i]?.getD undef:=by grind
def vQ(vs:List so)(u:so):(vs++[u])[vs.length]?.getD undef=u:=mP
def acn(c:Nat)(hx:dH w B A ls)(N:ls.length=n)(lx:n<=1048576)(lt:ej ls n<=1048576)(hB:B<=w.heap.size):
  aiK Gz.prog 33 #[Y A n c] w λe w'=>∃v vs,e=be v/\fp w' w.heap.size w'.heap.size v ls vs/\Q w w':=by
 have HX:=af hx;have HN:=af N;have HL:Hid (∀k,k<n->(aR ls k).length<=1048576):=λk R=>aI (F8 ls aa) (by rw[N];exact lt);clear hx N lt;obtain⟨i0,hi,G,hz1,hz2⟩:=info_parts aed;have Hi:=af hi;clear hi;have S:=af G;clear G;have V:=af hz1;clear hz1;have xK:=af hz2;clear hz2;go_enter Gz.gf func33,ntmps33;go_wp2_with(at_make;refine wpList_make_full _ rfl (.tmp 6) (.tmp 6) 34 rfl w.heap.size 62 i0 (Y ns 0 0) 1 (Gz.gu underlying34) Hi.out S.out V.out .i64 .i64 n n n rfl rfl rfl rfl uW kT (av _) ?_;intro H p f);have IF:=f.size;have W:H.ownsRow w.heap.size 62 1 (Y (an ⟨w.heap.size,0,ns⟩) n n) n (rl n (Y ns 0 0)):=by simpa[Value.cells,toList_madeCells_one] using p
 have hq:Q w H:=Q.iS f;have X:w.heap.size<H.heap.size:=(W.lt _ rfl).2;have Z:Hid (Q w H/\H.ownsRow w.heap.size 62 1 (Y (an ⟨w.heap.size,0,ns⟩) n n) n ([]++rl (n-0) (Y ns 0 0))):=⟨hq,by simpa using W⟩;clear p f W hq
 go_loopw[4] (λi wr=>∃(k:Nat)(vs:List so),k<=n/\i=U O k/\Hid (vs.length=k/\Q w wr/\w.heap.size<wr.heap.size/\wr.ownsRow w.heap.size 62 1 (Y (an ⟨w.heap.size,0,ns⟩) n n) n (vs++rl (n-k) (Y ns 0 0))/\
  (∀j,j<k->aK wr w.heap.size (vs[j]?.getD undef) (aR ls j).length (aR ls j))/\(∀j s,j<k->(vs[j]?.getD undef).ownBlock=an s->s<wr.heap.size/\w.heap.size≠s)/\(∀i j s,i<j->j<k->(vs[i]?.getD undef).ownBlock=an s->(vs[j]?.getD undef).ownBlock≠an s))) (λi _=>n-(intOf i).toNat)
 case atStart=>exact⟨0,[],dk _,rfl,rfl,Z.out.1,X,Z.out.2,λ_ h=>absurd h aa,λ_ _ h=>absurd h aa,λ_ _ _ _ h=>absurd h aa⟩
 case round=>
  obtain⟨k,vs,R,rfl,hK⟩:=hrel;obtain⟨l,r,L,D,y,t,E⟩:=hK.out;clear hK Z;by_cases I:k<n
  ·have i6:(k:Int)<n:=by omega
   obtain⟨b,o,rfl,hb,hc⟩:=HX.out eD;obtain⟨A',c',J,K,um,NE⟩:=hc k eD;have h1:=(r.cell b (o+k) aa).trans J;have T:=af (aea (aR ls k).length c' (K.q r hB) rfl (by have:=HL.out k I;omega) aa);have KK:=af (Vn l (Vn r (Vn L (Vn D (Vn y (Vn t E))))));clear l r L D y t E hc J K um;go_wp2;refine T.out.mono ?_;rintro e g⟨uu,rfl,F,x⟩;obtain⟨Au,cu,Jc⟩:=F.form;rw[Jc] at F⊢;obtain⟨u,z⟩:∃u,u=aki Au (aR ls k).length cu:=⟨_,rfl⟩;rw[<-z] at F;obtain⟨l,r,L,D,y,t,E⟩:=KK.out;have m:=D.kept (w':=g) (row:=ns) ⟨x.os,x.tape,x.output,x.size,λk R _=>x.block k R⟩ (E5 _)
   have wM:g.cell? ⟨w.heap.size,k,ns⟩=an (Y ns 0 0):=by rw[m.cellAt k aa,List.getElem?_append_right aa,l,akF,show n-k=(n-(k+1))+1 by omega,akg];rfl
   have d9:=m.frozenAt k;have k8:=(m.stored k u).1;rw[Qk l I u] at k8;have hu:∀s,u.ownBlock=an s->wr.heap.size<=s/\s<g.heap.size:=λs d=>F.2.lt s d
   have KZ:Hid ((vs++[u]).length=k+1/\Q w (g.setCell ⟨w.heap.size,k,ns⟩ u)/\w.heap.size<(g.setCell ⟨w.heap.size,k,ns⟩ u).heap.size/\(g.setCell ⟨w.heap.size,k,ns⟩ u).ownsRow w.heap.size 62 1 (Y (an ⟨w.heap.size,0,ns⟩) n n) n ((vs++[u])++rl (n-(k+1)) (Y ns 0 0))/\
     (∀j,j<k+1->aK (g.setCell ⟨w.heap.size,k,ns⟩ u) w.heap.size ((vs++[u])[j]?.getD undef) (aR ls j).length (aR ls j))/\(∀j s,j<k+1->((vs++[u])[j]?.getD undef).ownBlock=an s->s<(g.setCell ⟨w.heap.size,k,ns⟩ u).heap.size/\w.heap.size≠s)/\(∀i j s,i<j->j<k+1->((vs++[u])[i]?.getD undef).ownBlock=an s->((vs++[u])[j]?.getD undef).ownBlock≠an s)):=by
    have cM:(g.setCell ⟨w.heap.size,k,ns⟩ u).heap.size=g.heap.size:=uU;have Ce:=x.size;refine⟨by simp[l],(r.trans x).set (by show w.heap.size<=w.heap.size;omega) _,aa,k8,λj M=>?_,λj s M d=>?_,λi j s C M d=>?_⟩
    ·by_cases h:j<k
     ·rw[sI vs u j aa];exact⟨(y j h).1,ownsRow_setCell_other ((y j h).q x).2 (λe=>(t j _ h e).2 rfl) u⟩
     ·obtain rfl:j=vs.length:=by omega
      rw[vQ];subst l;have o6:=F.mono (B':=w.heap.size) aa;exact⟨o6.1,ownsRow_setCell_other o6.2 (λe=>by have:=(hu _ e).1;have h9:wr.heap.size<=w.heap.size:=this;omega) u⟩
    ·rw[cM];by_cases h:j<k
     ·rw[sI vs u j aa] at d;have:=t j s h d;omega
     ·obtain rfl:j=vs.length:=by omega
      rw[vQ] at d;have:=hu s d;omega
    ·rw[sI vs u i aa] at d;by_cases h:j<k
     ·rw[sI vs u j aa];exact E i j s C h d
     ·obtain rfl:j=vs.length:=by omega
      rw[vQ];intro e;have h1:=t i s aa d;have h2:=hu s e;omega
   rw[z] at KZ;clear KK l r L D y t E k8 m hu T z F;go_wp2;go_roundw;case rel=>exact⟨k+1,vs++[_],aa,aF,KZ.out⟩
   case measure=>exact aT
  ·have jn:k=n:=by omega
   subst jn;go_wp2;go_ret;refine⟨_,vs,rfl,⟨by rw[l,HN.out],by have h:=D;rw[akF,List.replicate_zero,List.append_nil] at h;rw[HN.out];exact h,λs d=>by have:=aJ d;simp at this;omega,λi hi=>y i yJ,λi s hi d=>?_,λi j s C M d=>E i j s C (by rw[<-HN.out];exact M) d⟩,r⟩;have:=t i s yJ d;exact⟨this.1,λe=>this.2 (aJ e)⟩
end
end Go.Proofs.Q0
namespace Go.Proofs
open Go.Proofs.Tryz
abbrev Tryz.link:Go.Conc.Lib.WgLink:={add:=72,done:=74,wait:=76,relMerge:=101,disable:=102,enable:=103,inBubble:=104,associate:=105,fatal:=106,uOr:=107,uAdd:=108,raceRead:=109,uLoad:=110,uStore:=111,disassociate:=112,semrelease:=113,acquire:=118,isAssociated:=119,uCas:=120,raceWrite:=121,semacquire:=122,orU64:=139,addU64:=140,loadU64:=141,storeU64:=142,casU64:=150,tWgP:=140,tUP:=142,tAssoc:=143,tWg:=115,tAU:=113,tU64:=77,tUint:=58,tU32:=75,tPU32:=147,tPAU:=176,tPU64:=178,tNoCopy:=109,tANoCopy:=110,tAlign64:=111}
def Tryz.wN:Go.Conc.Lib.WgLib Tryz.prog Tryz.link:=
 ⟨func72,func74,func76,func101,func102,func103,func104,func105,func106,func107,func108,func109,func110,func111,func112,func113,func118,func119,func120,func121,func122,func139,func140,func141,func142,func150,underlying140,runUnderlying140,sizeOf140,isAgg140,zeroValue140,underlying142,runUnderlying142,sizeOf142,isAgg142,zeroValue142,underlying143,runUnderlying143,sizeOf143,isAgg143,zeroValue143,underlying115,runUnderlying115,sizeOf115,isAgg115,zeroValue115,underlying113,runUnderlying113,sizeOf113,isAgg113,zeroValue113,underlying77,runUnderlying77,sizeOf77,isAgg77,zeroValue77,underlying58,runUnderlying58,sizeOf58,isAgg58,zeroValue58,underlying75,runUnderlying75,sizeOf75,isAgg75,zeroValue75,underlying147,runUnderlying147,sizeOf147,isAgg147,zeroValue147,underlying176,runUnderlying176,sizeOf176,isAgg176,zeroValue176,underlying178,runUnderlying178,sizeOf178,isAgg178,zeroValue178,underlying0,runUnderlying0,sizeOf0,isAgg0,zeroValue0,underlying3,runUnderlying3,sizeOf3,isAgg3,zeroValue3,underlying4,runUnderlying4,sizeOf4,isAgg4,zeroValue4,underlying9,runUnderlying9,sizeOf9,isAgg9,zeroValue9,underlying20,runUnderlying20,sizeOf20,isAgg20,zeroValue20,underlying21,runUnderlying21,sizeOf21,isAgg21,zeroValue21,ah,ah⟩
end Go.Proofs
