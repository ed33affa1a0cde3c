import Derived.Test.YtjjdeakghpmpfaaGreatDoorK12
import Derived.LaidEql
import Derived.Stop.Asserts
import Derived.RowKitTokens
import Derived.Conc.WgGenN3
set_option maxRecDepth 100000
set_option maxHeartbeats 8000000
set_option linter.all false
open Go.Value renaming int->U,slice->Y,bool->a9,agg->a5,pointer->ci,tuple->dl,iface->em
open Go.IntKind renaming i64->O
open Go.Obj renaming cells->ac
open Go.Ending renaming returned->be
open And renaming intro->TO
open Array renaming range->ako
open Go renaming Addr->aiI,Calls->UL,TypeId->EV,Value->rl,World->ns,bodyPost_ret->aiA,run_underlying->alb,sameAddr->ajJ,underlying->ajg
open Go.Extern.ReflectliteType renaming method->alg,typeOf->alf
open Go.Instr renaming sliceBound->akx,sliceBounds->ajV,typeAssert->ajj
open Go.IntKind renaming i64->AS,u8->ajU
open Go.Value renaming slice->akn
open List renaming append_assoc->aiK,getElem?_eq_getElem->aiX,replicate->an,replicate_succ->akl,set_append_right->aky,set_cons_zero->aiG,take_of_length_le->aks
open Nat renaming sub_self->ajN
namespace Go.Proofs
def uh{p:Prop}(h:p:=by simp[results,Tryz.results64,go_sem]):p:=h
def C1{p:Prop}(h:p:=by go_wp2;refine bodyPost_ret (v:=dl #[Y none 0 0,a9 false]) uh rfl ?_;rw[qM.out];exact yD rfl q1):p:=h
def Ko{p:Prop}(h:p:=by clear h1 hm;go_enter Gz.gf func64,ntmps64;go_wp2;refine bodyPost_ret (v:=dl #[Y none 0 0,a9 false]) uh rfl ?_;exact yD rfl (Q.refl _)):p:=h
def lX{p:Prop}(h:p:=by rw[Hn.out];omega):p:=h
def rh{p:Prop}(h:p:=by rw[II.out];omega):p:=h
def Kp{p:Prop}(h:p:=by
  go_wp2
  go_quiet(fail)
  go_wp2;go_roundw;case rel=>exact⟨k+1,aa,aH,⟨_,by first|rfl|exact World.drewN_drewN _ _ _⟩,Xy lX rh ht.out He.out⟩
  case measure=>simp[intOf];omega):p:=h
def Kq{p:Prop}(h:p:=by
  go_wp2
  go_quiet(fail)
  go_wp2;go_ret;refine⟨?_,⟨_,by first|rfl|exact World.drewN_drewN _ _ _⟩⟩
  have:(xs==ys)=false:=by rw[beq_eq_false_iff_ne];intro e;exact He.out nI
  rw[this];rfl):p:=h
def Kr{p:Prop}(h:p:=by
  go_wp2;go_ret
  have:(xs==ys)=true:=by rw[beq_iff_eq];have h:=ht.out;have:k=n:=aa;rw[List.take_of_length_le lX,List.take_of_length_le rh] at h;exact h
  exact⟨by rw[this];rfl,_,rfl⟩):p:=h
def Ks{p:Prop}(h:p:=by
  go_wp2;go_ret
  have:(xs==ys)=false:=by rw[beq_eq_false_iff_ne];intro e;exact Hl.out (by rw[<-Hn.out,<-II.out,e])
  exact⟨by rw[this];rfl,0,rfl⟩):p:=h
def xL{p:Prop}(h:p:=by rw[BD.out];omega):p:=h
def Kt{p:Prop}(h:p:=by
  have H4:=af h4;have H5:=af h5;clear h4 h5 i6 gt hc hx;go_wp2;go_roundw;case rel=>exact⟨k+1,aa,aH,H5.out,by have h:=H4.out;rw[<-Hn.out,aaa xs k (by rw[Hn.out];exact aT),Hn.out] at h;exact h⟩
  case measure=>simp[intOf];omega):p:=h
def Ku{p:Prop}(h:p:=by go_wp2;go_ret;have:k=n:=aa;subst this;exact⟨_,rfl,by simpa[List.take_of_length_le (Nat.le_of_eq Hn.out)] using gt,i6⟩):p:=h
def LY{p:Prop}(h:p:=by go_wp2;refine wp_loop_rounds 1 ?_;rw[rounds_succ];go_wp2;go_ret;exact⟨aj,hx,World.grownBy.refl _ _⟩):p:=h
def Kv{p:Prop}(h:p:=by go_wp2;go_ret;have:k=n:=aa;subst this;exact⟨rfl,by simpa[List.drop_of_length_le (Nat.le_of_eq Hl.out)] using gt,i6⟩):p:=h
def C2{p:Prop}(h:p:=by go_enter Gz.gf func30,ntmps30;go_wp2;go_ret;exact⟨rfl,rfl⟩):p:=h
def Dl{p:Prop}(h:p:=by go_wp2;go_ret;exact⟨⟨_,rfl,.inl aa⟩,rfl⟩):p:=h
def im{p:Prop}(h:p:=by rw[HN.out];omega):p:=h
def xM{p:Prop}(h:p:=by rw[<-HN.out];exact hi):p:=h
end Go.Proofs
namespace Go.Proofs.Q0
open Go.Proofs.Tryz
variable{a b:aiI}{w w':ns}{P:Program}{n B k:Nat}{xs:List Int}{A:Option aiI}{v:rl}{ls:List (List Int)}
section
open Go.RowKit Go.WideShapes Go.ChangeShapes Go.Extern.Stop Go.Stop Go.Extern
def dx(w:ns)(a:aiI):Prop:=∃o,w.heap[a.block]?=some o/\(∀x y,o≠.view x y)/\∀cs t f,o≠ac cs t f
def dx.q(h:dx w a)(q:Q w w'):dx w' a:=by obtain⟨o,h1,c⟩:=h;exact⟨o,(q.block _ (bF.1 h1).1).trans h1,c⟩
def dx.plain(h:dx w a):w.frozen? a=false/\w.shape? a.block=none:=by obtain⟨o,h1,_,c⟩:=h;unfold World.frozen? World.shape?;rw[h1];cases o<;>first|exact absurd rfl (c _ _ _)|exact⟨rfl,rfl⟩
def dx.noView(h:dx w a):(noView a).run P w=.ok () w:=by
 have s1:=h.plain.2;obtain⟨o,h1,v1,_⟩:=h;have g:(getObj a.block).run P w=.ok o w:=by simp[getObj,Sem.run,h1]
 cases o<;>first|exact absurd rfl (v1 _ _)|simp[Go.noView,viewAt,s1,g]
def Xz(f:dx w a)(g:dx w b):(ajJ a b).run P w=.ok (a==b) w:=by
 by_cases c:a.block=b.block
 ·simp[ajJ,c]
 ·have d:(a==b)=false:=by rw[beq_eq_false_iff_ne];intro e;exact c nI
  rw[d];obtain⟨f1,s1⟩:=f.plain;obtain⟨f2,s2⟩:=g.plain;have h:=f.noView (P:=P);have i:=g.noView (P:=P);simp[ajJ,c,f1,f2,s1,s2,h,i,mayBeOne,stringish]
def Y6(o:dx w a)(p:dx w b){g f m:EV}{q:Array (String×EV)}{i j:TypeInfo}(hi:P.underlying g=some (.interface q))(r:P.underlying f=some (.pointer m))(c:P.info? f=some i)(e:i.comparable=true)(h:P.info? m=some j)(l:j.size≠0):
  (binOp .eql g (em f (ci (some a))) (em f (ci (some b)))).run P w=.ok (a9 (a==b)) w:=by
 have he:∀d:Nat,(Op.equalIn (d+2) g (em f (ci (some a))) (em f (ci (some b)))).run P w=.ok (a==b) w:=λd=>by have s:=Xz (P:=P) o p;simp[Op.equalIn,alb hi,alb r,typeInfo,c,e,sizeOf,h,l,samePointer,s]
 simp only[binOp];simp[Op.equal,Op.maxDepth,he 9998]
def aeE:(Gz.prog.info? 233).map (·.comparable)=some true:=aC
def aeF:(Gz.prog.info? 259).map (·.size)=some 1:=aC
def aeG(d:dx w a)(e:dx w b):(binOp .eql 143 (em 233 (ci (some a))) (em 233 (ci (some b)))).run Gz.prog w=.ok (a9 (a==b)) w:=by obtain⟨i,hi,c⟩:=jD.1 aeE;obtain⟨j,f,g⟩:=jD.1 aeF;exact Y6 d e (Gz.gu underlying143) (Gz.gu underlying233) hi c f aa
def abH(v:rl)(w:ns):(alf #[em 233 v]).run Gz.prog w=.ok (em 202 (a5 #[ci (some ⟨3,233,none⟩)])) w:=aC
def XA(w:ns):((alg λt=>do Rtype.noPackHeld "Comparable" t;Functor.map (λa=>Value.bool a.comparable) (typeInfo t)) #[a5 #[ci (some ⟨3,233,none⟩)]]).run Gz.prog w=.ok (a9 true) w:=ai
def Wc(v:rl)(w:ns):(Go.method 370 202 v "Comparable").run Gz.prog w=.ok (210,v) w:=aC
def afD(v:rl)(c:EV)(w:ns):(ajj (em 233 v) c 204 true).run Gz.prog w=.ok (dl #[.nilIface,a9 false]) w:=run_typeAssert_lacksB (Gz.gu underlying204) ai ai v c w
def aab(v:rl)(c:EV)(w:ns):(ajj (em 233 v) c 207 true).run Gz.prog w=.ok (dl #[.nilIface,a9 false]) w:=run_typeAssert_lacksB (Gz.gu underlying207) ai ai v c w
def Y7(v:rl)(c:EV)(w:ns):(ajj (em 233 v) c 209 true).run Gz.prog w=.ok (dl #[.nilIface,a9 false]) w:=run_typeAssert_lacksB (Gz.gu underlying209) ai ai v c w
def abI(d:dx w a)(f:dx w b):
  UL Gz.prog 135 #[em 233 (ci (some a)),em 233 (ci (some b)),a9 true] w λe w'=>e=be (a9 (a==b))/\w'=w:=by
 have c:=aeG d f;have j:=afD;have l:=aab;have m:=Y7;obtain⟨t,g⟩:∃t,(a==b)=t:=⟨_,rfl⟩;rw[g] at c⊢;go_enter Gz.gf func135,ntmps135;go_wp2;go_loopw[0] (λh i=>i=w/\h=em 233 (ci (some a))) (λ_ _=>0)
 case atStart=>exact⟨rfl,rfl⟩
 case round=>cases t with|true=>go_wp2;go_ret;exact⟨rfl,rfl⟩|false=>go_wp2;go_ret;exact⟨rfl,rfl⟩
def EY(d:dx w a)(f:dx w b):
  UL Gz.prog 104 #[em 233 (ci (some a)),em 233 (ci (some b))] w λe w'=>e=be (a9 (a==b))/\w'=w:=by
 have g:=@run_callFunc_extern Gz.prog 134 _ alf (Gz.gf func134) ai ai ai ai;have h:=@run_callFunc_extern Gz.prog 210 _ (alg λt=>do Rtype.noPackHeld "Comparable" t;pure (a9 (<-typeInfo t).comparable)) (Gz.gf func210) ai ai ai ai;have i:=abH;have j:=XA;have l:=Wc;have c:=abI d f;go_enter Gz.gf func104,ntmps104;go_wp2_with(first|(go_at_call 135;refine c.mono ?_;rintro e w'⟨rfl,rfl⟩)|go_in);go_ret;exact⟨rfl,rfl⟩
def MH(b:aiI):
  UL Gz.prog 104 #[.nilIface,em 233 (ci (some b))] w λe w'=>e=be (a9 false)/\w'=w:=by
 have c:=run_eql_iface_nil_left (P:=Gz.prog) w 233 (ci (some b)) (Gz.gu underlying143);go_enter Gz.gf func104,ntmps104;go_wp2;go_ret;exact⟨rfl,rfl⟩
end
section
open Go.RowKit Go.WideShapes Go.ChangeShapes
def eW(data:List Int)(n:Int)(ap:Bool):Option (List Int):=
 if 1<=n/\n<=4 then
  match(eI ap n.toNat (eu data,0)).1 with
  |none=>none
  |some xs=>
   match ew ap xs n.toNat with
   |some c=>if strOfNums c=strOfNums data then some xs else none
   |none=>none
 else none
def adm{data:List Int}(n:Int)(ap:Bool)(c:bytes data):eW data n ap=AK data n ap:=by
 unfold eW AK;split
 ·rename_i j;cases d:(eI ap n.toNat (eu data,0)).1 with
  |none=>rfl
  |some xs=>
   dsimp only;have f:=DV ap _ _ d;cases hq:ew ap xs n.toNat with
   |none=>rw[if_neg λh=>by cases h]
   |some g=>
    dsimp only;have i:=NN f aa aa hq;rw[QU c];by_cases h:g=data
    ·simp_all
    ·rw[if_neg λe=>h (OG i c e),if_neg λe=>h lW]
 ·rfl
def adn(w:ns):(binOp .eql 52 (Y none 0 0) (Y none 0 0)).run Gz.prog w=.ok (a9 true) w:=aC
def ado(g:aiI)(n c:Nat)(w:ns):(binOp .eql 52 (Y (some g) n c) (Y none 0 0)).run Gz.prog w=.ok (a9 false) w:=aC
def EZ(R:Option (List Int))(n:Nat)(w:ns)(e:Ending)(w':ns):Prop:=
  (match R with
   |some L=>∃v,e=be (dl #[v,a9 true])∧az 85 71 w' w.heap.size v n L
   |none=>e=be (dl #[Y none 0 0,a9 false]))∧Q w w'
def yD{e:Ending}(he:e=be (dl #[Y none 0 0,a9 false]))(q:Q w w'):EZ none n w e w':=⟨he,q⟩
def MJ(c:Nat)(many:Int)(ap:Bool){h i:aiI}(hx:bB w B A xs)(hn:xs.length=n)(hc:n<=c/\c<=maxLen)(K:B<=w.heap.size)(he:gx w h i B)(k1:dx w h)(k2:dx w i):
  UL Gz.prog 64 #[Y A n c,U O many,a9 ap] w (EZ (eW xs many ap) many.toNat w):=by
 obtain⟨R,o⟩:∃z,eW xs many ap=z:=⟨_,rfl⟩;rw[o];unfold eW at o;by_cases hm:1<=many/\many<=4
 ·rw[if_pos hm] at o;obtain⟨N,rfl⟩:∃N:Nat,many=(N:Int):=⟨many.toNat,aa⟩;rw[Int.toNat_natCast] at o⊢;obtain⟨m1,m4⟩:=hm;have d1:decide ((N:Int)<1)=false:=decide_eq_false aa;have d2:decide ((4:Int)<(N:Int))=false:=decide_eq_false aa;have C:=af (ZP N ap hx hn hc K he aa);have D:=af o;have HX:=af hx;have EQ:=af hn;have HE:=af he;have M:=af k1;have Q:=af k2;clear o hx hn he k1 k2;go_enter Gz.gf func64,ntmps64;go_wp2;refine C.out.mono ?_;rintro e w1⟨hP,q1⟩;clear C;have p:∀r,(eI ap N (eu xs,0)).1=some r->r.length=N*71:=λr=>DV ap N (eu xs,0);cases hs:eI ap N (eu xs,0) with
  |mk S k=>
   rw[hs] at hP;have d:=D.out;rw[hs] at d p;clear D hs;have m:=(HE.out.q q1 K).e1;have s:=(HE.out.q q1 K).e2;have x:=M.out.q q1;have y:=Q.out.q q1;cases S with
   |none=>
    obtain⟨hk,rfl⟩:=hP;have qM:Hid (R=none):=d.symm;by_cases h1:k=1
    ·rw[h1];have u:=EY x x;rw[beq_self_eq_true] at u;have HI:=af u;have ev:ky h i 1=em 233 (ci (some h)):=rfl;rw[ev] at m⊢;clear u ev d x y M Q;go_wp2;refine HI.out.mono ?_;rintro e wi⟨rfl,rfl⟩;exact C1
    ·have ev:∀j,j≠0->j≠1->ky h i j=em 233 (ci (some i)):=λj h0 h1=>by
      rcases j with _|_|j
      ·exact absurd rfl h0
      ·exact absurd rfl h1
      ·rfl
     rw[ev k hk h1];rw[ev 2 aq aq] at s;rw[show ky h i 1=em 233 (ci (some h)) from rfl] at m;have u:=af (EY y x);have hJ:=EY y y;rw[beq_self_eq_true] at hJ;have HJ:=af hJ;obtain⟨t,ht⟩:∃t,(i==h)=t:=⟨_,rfl⟩;rw[ht] at u;clear hJ ev d x y M Q ht;cases t with
     |true=>go_wp2;refine u.out.mono ?_;rintro e wi⟨rfl,rfl⟩;exact C1
     |false=>go_wp2;refine u.out.mono ?_;rintro e wi⟨rfl,rfl⟩;go_wp2;refine HJ.out.mono ?_;rintro e wi⟨rfl,rfl⟩;exact C1
   |some L=>
    obtain⟨v,rfl,T⟩:=hP;dsimp only at d;have hLl:=p L rfl;obtain⟨g,cg,rfl⟩:=T.fS aa;rw[show ky h i 1=em 233 (ci (some h)) from rfl] at m;rw[show ky h i 2=em 233 (ci (some i)) from rfl] at s;have E:=af (MH (w:=w1) h);have F:=af (MH (w:=w1) i);have G:=af (Xw ap T aa aa);have O1:=af T;have H:=af d;clear T d p x y M Q;go_wp2;refine E.out.mono ?_;rintro e wi⟨rfl,rfl⟩;go_wp2;refine F.out.mono ?_;rintro e wi⟨rfl,rfl⟩;go_wp2;refine G.out.mono ?_;rintro e w2⟨v2,rfl,I,l,q2⟩;have V:=q1.trans q2;have O3:=af (O1.out.q q2);have X3:=af (HX.out.q V K);clear G E F m s q1;cases hq:ew ap L N with
    |none=>have hv:=l hq;subst hv;have d:=H.out;rw[hq] at d;have qM:Hid (R=none):=d.symm;clear hq d I l;have en:=adn;go_wp2;refine aiA (v:=dl #[Y none 0 0,a9 false]) uh rfl ?_;rw[qM.out];exact yD rfl V
    |some W=>
     rw[hq,Option.getD_some] at I;have d:=H.out;rw[hq] at d;dsimp only at d;have J:W≠[]:=λe=>by rw[e] at hq;exact ac6 hq
     have hyl:0<W.length:=List.length_pos_iff.2 J;rcases I.dD with⟨_,h0⟩|⟨g2,c2,rfl,_⟩
     ·omega
     have X:=af (YR W.length c2 c I.rd rfl X3.out EQ.out);clear hq l I J;have en:=ado;by_cases f:strOfNums W=strOfNums xs
     ·rw[if_pos f] at d;have qM:Hid (R=some L):=d.symm;rw[decide_eq_true f] at X;clear d f;go_wp2;refine X.out.mono ?_;rintro e w4⟨rfl,Z⟩;go_wp2;refine aiA (v:=dl #[Y (some ⟨g,0,none⟩) N cg,a9 true]) uh rfl ?_;rw[qM.out];exact⟨⟨_,rfl,O3.out.q Z⟩,V.trans Z⟩
     ·rw[if_neg f] at d;have qM:Hid (R=none):=d.symm;rw[decide_eq_false f] at X;clear d f;go_wp2;refine X.out.mono ?_;rintro e w4⟨rfl,Z⟩;go_wp2;refine aiA (v:=dl #[Y none 0 0,a9 false]) uh rfl ?_;rw[qM.out];exact yD rfl (V.trans Z)
 ·rw[if_neg hm] at o;subst o;by_cases h1:many<1
  ·have d1:decide (many<1)=true:=decide_eq_true h1;exact Ko
  ·have d1:decide (many<1)=false:=decide_eq_false h1;have d2:decide (4<many)=true:=decide_eq_true aa;exact Ko
end
section
open Go.RowKit
def Xy{c:List Int}(d:k<xs.length)(e:k<c.length)(h:xs.take k=c.take k)(he:xs[k]?.getD 0=c[k]?.getD 0):xs.take (k+1)=c.take (k+1):=by rw[Dg d,Dg e,h,he]
def aeH{p:Option aiI}{g:Nat}(c s:Nat){B':Nat}{ys:List Int}(q:Rd w B A xs)(r:Rd w B' p ys)(j:xs.length=n)(f:ys.length=g)(t:n<=maxLen)(u:g<=maxLen):
  UL Gz.prog 25 #[Y A n c,Y p g s] w λe w'=>e=be (a9 (xs==ys))/\∃k,w'=w.drewN k:=by
 unfold maxLen at t u;have Hn:=af j;have II:=af f;by_cases l:n=g
 ·subst l;clear j f;go_enter Gz.gf func25,ntmps25;go_wp2;go_loopw[5] (λi wr=>∃k:Nat,k<=n/\i=U O k/\(∃d,wr=w.drewN d)/\Hid (xs.take k=ys.take k)) (λi _=>n-(intOf i).toNat)
  case atStart=>exact⟨0,dC _,rfl,⟨0,rfl⟩,by simp[Hid]⟩
  case round=>
   obtain⟨k,z,rfl,⟨d,rfl⟩,ht⟩:=hrel;by_cases x:k<n
   ·obtain⟨b,o,rfl,_,hc⟩:=q lX;obtain⟨C,D,rfl,_,h⟩:=r rh;have h1:=hc k lX;have E:=h k rh;clear hc h q r;by_cases he:xs[k]?.getD 0=ys[k]?.getD 0
    ·have m:((xs[k]?.getD 0) !=(ys[k]?.getD 0))=false:=by simp[he]
     have He:=af he;clear he;exact Kp
    ·have m:((xs[k]?.getD 0) !=(ys[k]?.getD 0))=true:=by simp[he]
     have He:=af he;clear he;exact Kq
   ·exact Kr
 ·have y:((n:Int) !=(g:Int))=true:=by rw[bne_iff_ne];omega
  have Hl:=af l;clear l j f;go_enter Gz.gf func25,ntmps25;exact Ks
def gj(k:Int):Nat->List Int
 |0=>[]
 |n+1=>k::gj (k+1) n
def Mn(k:Int)(n:Nat):(gj k n).length=n:=by induction n generalizing k with|zero=>rfl|succ n c=>simp[gj,c]
def Y8(k:Int)(n i:Nat)(h:i<n):(gj k n)[i]?.getD 0=k+i:=by
 induction n generalizing k i with
 |zero=>omega
 |succ n c=>cases i with|zero=>simp[gj]|succ i=>simp only[gj,List.getElem?_cons_succ,c (k+1) i aa];omega
def Yd(k:Int)(n:Nat):gj k (n+1)=gj k n++[k+n]:=by induction n generalizing k with|zero=>simp[gj]|succ n c=>rw[gj,c,gj];simp;omega
def aac{k:Int}{i:Nat}(h:i<xs.length):(gj k i++xs.drop i).set i (k+i)=gj k (i+1)++xs.drop (i+1):=by rw[Yd,aky _ _ (by rw[Mn];omega),Mn,ajN,List.drop_eq_getElem_cons h,aiG,aiK];rfl
def aaa(xs:List Int)(k:Nat)(h:k<xs.length):(xs.take k++an (xs.length-k) 0).set k (xs[k]?.getD 0)=xs.take (k+1)++an (xs.length-(k+1)) 0:=by rw[Dg h,aky _ _ aA];rw[show xs.length-k=(xs.length-(k+1))+1 by omega,akl];simp[show k-min k xs.length=0 by omega]
def aeI(c:Nat)(hx:Rd w B A xs)(l:xs.length=n)(u:n*8<=281474976710656)(x:B<=w.heap.size):
  UL Gz.prog 22 #[Y A n c] w λe w'=>∃v,e=be v/\Own w' w.heap.size v n xs/\Q w w':=by
 have Hn:=af l;clear l;obtain⟨i0,hi,g,hz1,hz2⟩:=info_parts rU;have r:=af hi;clear hi;have h:=af g;clear g;have j:=af hz1;clear hz1;have BD:=af hz2;clear hz2;have s:n<=9223372036854775807:=aa;go_enter Gz.gf func22,ntmps22;go_wp2_with(at_make;refine wpList_make_full _ rfl (.tmp 6) (.tmp 6) 25 rfl w.heap.size 3 i0 (U O 0) 1 (Gz.gu underlying25) r.out h.out j.out .i64 .i64 n n n rfl rfl rfl rfl xL jC (au _) ?_;intro m f d);have t:=d.size;have q:Own m w.heap.size (Y (some ⟨w.heap.size,0,none⟩) n n) n (an n 0):=⟨aj,by simpa[Value.cells,toList_madeCells_one] using f⟩;have hq:Q w m:=Q.jf d;clear f d;go_loopw[4] (λi wr=>∃k:Nat,k<=n/\i=U O k/\Q w wr/\Own wr w.heap.size (Y (some ⟨w.heap.size,0,none⟩) n n) n (xs.take k++an (n-k) 0)) (λi _=>n-(intOf i).toNat)
 case atStart=>exact⟨0,dC _,rfl,hq,by simpa using q⟩
 case round=>
  obtain⟨k,y,rfl,i6,gt⟩:=hrel;clear hq q;by_cases aT:k<n
  ·obtain⟨b,o,rfl,z,hc⟩:=hx lX;have h1:wr.cell? ⟨b,o+k,none⟩=_:=(i6.cell b _ aa).trans (hc k lX);have C:=gt.at k aT;have D:=gt.free k;have h4:=gt.set k (xs[k]?.getD 0);have h5:=i6.set (p:=⟨w.heap.size,k,none⟩) (au _) (U O (xs[k]?.getD 0));exact Kt
  ·exact Ku
def abJ{d:Int}(hx:Own w B v n xs)(l:0<=d)(m:d<=1000000000000)(t:n<=1000000000000):
  UL Gz.prog 28 #[v,U O d] w λe w'=>e=be (U O (d+n))/\Own w' B v n (gj d n)/\w.grownBy w' v.ownBlock:=by
 have Hl:=af hx.len;rcases hx.dD with⟨rfl,rfl⟩|⟨g,c,rfl,u,x,_,_⟩
 ·have j:=List.length_eq_zero_iff.1 Hl.out;subst j;go_enter Gz.gf func28,ntmps28;exact LY
 ·go_enter Gz.gf func28,ntmps28;go_wp2;go_loopw[1,5] (λq i wr=>∃k:Nat,k<=n/\i=U O k/\q=U O (d+k)/\w.grownBy wr (some g)/\Own wr B (Y (some ⟨g,0,none⟩) n c) n (gj d k++xs.drop k)) (λ_ i _=>n-(intOf i).toNat)
  case atStart=>exact⟨0,dC _,rfl,aj,World.grownBy.refl _ _,by simpa[gj] using hx⟩
  case round=>
   obtain⟨k,y,rfl,rfl,i6,gt⟩:=hrel;by_cases f:k<n
   ·have z:=gt.at k f;have C:=gt.free k;have o:=gt.set k (d+k);have p:=ry i6 k (U O (d+k));have r:=af o;have s:=af p;go_wp2;go_roundw;case rel=>exact⟨k+1,aa,aH,aH,s.out,by have h:=r.out;rw[aac (by rw[Hl.out];exact f)] at h;exact h⟩
    case measure=>exact bg
   ·exact Kv
def abK{f:Int}(j:Own w B v n (gj f n))(l:0<=f)(m:f<=1000000000000)(p:n<=1000000000000):
  UL Gz.prog 29 #[v,U O f] w λe w'=>e=be (U O (f+n))/\∃d,w'=w.drewN d:=by
 rcases j.dD with⟨rfl,rfl⟩|⟨g,c,rfl,r,s,_,_⟩
 ·go_enter Gz.gf func29,ntmps29;go_wp2;refine wp_loop_rounds 1 ?_;rw[rounds_succ];go_wp2;go_ret;exact⟨aj,0,rfl⟩
 ·go_enter Gz.gf func29,ntmps29;go_wp2;go_loopw[1,5] (λq i wr=>∃k:Nat,k<=n/\i=U O k/\q=U O (f+k)/\∃d,wr=w.drewN d) (λ_ i _=>n-(intOf i).toNat)
  case atStart=>exact⟨0,dC _,rfl,aj,0,rfl⟩
  case round=>
   obtain⟨k,t,rfl,rfl,d,rfl⟩:=hrel;by_cases h:k<n
   ·have o:=j.at k h;rw[Y8 _ _ _ h] at o;go_wp2;go_roundw;case rel=>exact⟨k+1,aa,aH,aH,⟨_,by first|rfl|exact World.drewN_drewN _ _ _⟩⟩
    case measure=>exact bg
   ·go_wp2;go_ret;have:k=n:=aa;subst this;exact⟨rfl,d,rfl⟩
end
section
open Go.RowKit
def adp:(Gz.prog.info? 5).map (λi=>(i.zero,i.size,i.bytes))=some (some (.int .u8 0),1,1):=aC
def adq(n c:Nat)(hx:bB w B A xs)(l:xs.length=n)(u:n*8<=281474976710656)(x:B<=w.heap.size):
  UL Gz.prog 39 #[Y A n c] w λe w'=>∃v,e=be v/\aK w' w.heap.size v n xs/\Q w w':=by
 have Hn:=af l;clear l;obtain⟨i0,hi,g,hz1,hz2⟩:=info_parts adp;have r:=af hi;clear hi;have h:=af g;clear g;have j:=af hz1;clear hz1;have BD:=af hz2;clear hz2;have s:n<=9223372036854775807:=aa;go_enter Gz.gf func39,ntmps39;go_wp2_with(at_make;refine wpList_make_full _ rfl (.tmp 6) (.tmp 6) 52 rfl w.heap.size 5 i0 (.int .u8 0) 1 (Gz.gu underlying52) r.out h.out j.out .i64 .i64 n n n rfl rfl rfl rfl xL jC (au _) ?_;intro m f d);have t:=d.size;have q:aK m w.heap.size (Y (some ⟨w.heap.size,0,none⟩) n n) n (an n 0):=⟨aj,by simpa[Value.cells,toList_madeCells_one] using f⟩;have hq:Q w m:=Q.jf d;clear f d;go_loopw[4] (λi wr=>∃k:Nat,k<=n/\i=U O k/\Q w wr/\aK wr w.heap.size (Y (some ⟨w.heap.size,0,none⟩) n n) n (xs.take k++an (n-k) 0)) (λi _=>n-(intOf i).toNat)
 case atStart=>exact⟨0,dC _,rfl,hq,by simpa using q⟩
 case round=>
  obtain⟨k,y,rfl,i6,gt⟩:=hrel;clear hq q;by_cases aT:k<n
  ·obtain⟨b,o,rfl,z,hc⟩:=hx lX;have h1:wr.cell? ⟨b,o+k,none⟩=_:=(i6.cell b _ aa).trans (hc k lX);have C:=gt.at k aT;have D:=gt.free k;have h4:=gt.set k (xs[k]?.getD 0);have h5:=i6.set (p:=⟨w.heap.size,k,none⟩) (au _) (.int .u8 (xs[k]?.getD 0));exact Kt
  ·exact Ku
def adr(A l:Option aiI){f:Nat}(c s B B':Nat)(xs ys:List Int)(w:ns)(m:bB w B A xs)(p:bB w B' l ys)(q:xs.length=n)(g:ys.length=f)(t:n<=maxLen)(u:f<=maxLen):
  UL Gz.prog 49 #[Y A n c,Y l f s] w λe w'=>e=be (a9 (xs==ys))/\∃k,w'=w.drewN k:=by
 unfold maxLen at t u;have Hn:=af q;have II:=af g;by_cases r:n=f
 ·subst r;clear q g;go_enter Gz.gf func49,ntmps49;go_wp2;go_loopw[5] (λi wr=>∃k:Nat,k<=n/\i=U O k/\(∃d,wr=w.drewN d)/\Hid (xs.take k=ys.take k)) (λi _=>n-(intOf i).toNat)
  case atStart=>exact⟨0,dC _,rfl,⟨0,rfl⟩,by simp[Hid]⟩
  case round=>
   obtain⟨k,z,rfl,⟨d,rfl⟩,ht⟩:=hrel;by_cases x:k<n
   ·obtain⟨b,o,rfl,_,hc⟩:=m lX;obtain⟨C,D,rfl,_,h⟩:=p rh;have h1:=hc k lX;have E:=h k rh;clear hc h m p;by_cases he:xs[k]?.getD 0=ys[k]?.getD 0
    ·have j:((xs[k]?.getD 0) !=(ys[k]?.getD 0))=false:=by simp[he]
     have He:=af he;exact Kp
    ·have j:((xs[k]?.getD 0) !=(ys[k]?.getD 0))=true:=by simp[he]
     have He:=af he;exact Kq
   ·exact Kr
 ·have y:((n:Int) !=(f:Int))=true:=by rw[bne_iff_ne];omega
  have Hl:=af r;go_enter Gz.gf func49,ntmps49;exact Ks
def adt(A:Option aiI)(n c:Nat){l:Int}(w:ns)(h1:0<=l)(d:l<=1000000000000)(f:n<=9223372036854775807):
  UL Gz.prog 30 #[Y A n c,U O l] w λe w'=>e=be (U O (if l<n then -1 else l-n))/\w=w':=by
 by_cases h:l<n
 ·rw[if_pos h];by_cases g:n<=4000000000000000000
  ·exact C2
  ·have hw:AS.wrap (l-(n:Int))=l-n:=aB _ ⟨aa,aa⟩;exact C2
 ·rw[if_neg h];exact C2
def mw(k:Int)(n:Nat):List Int:=(List.range n).map λi:Nat=>ajU.wrap (k+(i:Int))
def NS(k:Int)(n:Nat):(mw k n).length=n:=by simp[mw]
def aad(k:Int)(n:Nat):mw k (n+1)=mw k n++[ajU.wrap (k+n)]:=by simp[mw,List.range_succ]
def Y9{k:Int}{i:Nat}(h:i<xs.length):(mw k i++xs.drop i).set i (ajU.wrap (k+i))=mw k (i+1)++xs.drop (i+1):=by rw[aky _ _ (by rw[NS];omega),NS,ajN,List.drop_eq_getElem_cons h,aiG,aad,aiK];rfl
def aae(d:Int)(hx:aK w B v n xs)(l:0<=d)(m:d<=1000000000000)(t:n<=1000000000000):
  UL Gz.prog 50 #[v,U O d] w λe w'=>e=be (U O (d+n))/\aK w' B v n (mw d n)/\w.grownBy w' v.ownBlock:=by
 have Hl:=af hx.len;rcases hx.dD with⟨rfl,rfl⟩|⟨g,c,rfl,u,x,_,_⟩
 ·have j:=List.length_eq_zero_iff.1 Hl.out;subst j;go_enter Gz.gf func50,ntmps50;exact LY
 ·go_enter Gz.gf func50,ntmps50;go_wp2;go_loopw[1,5] (λq i wr=>∃k:Nat,k<=n/\i=U O k/\q=U O (d+k)/\w.grownBy wr (some g)/\aK wr B (Y (some ⟨g,0,none⟩) n c) n (mw d k++xs.drop k)) (λ_ i _=>n-(intOf i).toNat)
  case atStart=>exact⟨0,dC _,rfl,aj,World.grownBy.refl _ _,by simpa[mw] using hx⟩
  case round=>
   obtain⟨k,y,rfl,rfl,i6,gt⟩:=hrel;by_cases f:k<n
   ·have z:=gt.at k f;have C:=gt.free k;have o:=gt.set k (ajU.wrap (d+k));have p:=ry i6 k (.int .u8 (ajU.wrap (d+k)));have r:=af o;have s:=af p;go_wp2;go_roundw;case rel=>exact⟨k+1,aa,aH,aH,s.out,by have h:=r.out;rw[Y9 (by rw[Hl.out];exact f)] at h;exact h⟩
    case measure=>exact bg
   ·exact Kv
end
section
open Go.RowKit Go.WideShapes Go.ChangeShapes
abbrev aU(ls:List (List Int))(i:Nat):List Int:=ls[i]?.getD []
def eD(ls:List (List Int))(k:Nat):Nat:=((ls.take k).map List.length).sum
def PQ(ls:List (List Int)):eD ls 0=0:=aC
def zC(ls:List (List Int))(k:Nat)(h:k<ls.length):eD ls (k+1)=eD ls k+(aU ls k).length:=by unfold eD aU;rw[List.take_add_one,List.map_append,List.sum_append,aiX h];simp
def PR(ls:List (List Int))(k:Nat):∀d,eD ls k<=eD ls (k+d)
 |0=>au _
 |d+1=>by
  refine aJ (PR ls k d) ?_;by_cases h:k+d<ls.length
  ·rw[show k+(d+1)=(k+d)+1 by omega,zC ls _ h];omega
  ·unfold eD;rw[aks (show ls.length<=k+d by omega),aks (show ls.length<=k+(d+1) by omega)];exact au _
def RQ(ls:List (List Int))(h:k<=n):eD ls k<=eD ls n:=by have:=PR ls k (n-k);rw[show k+(n-k)=n by omega] at this;exact this
def Fv(ls:List (List Int))(h:k<ls.length):(aU ls k).length<=eD ls ls.length:=by have h1:=zC ls k h;have c:=RQ ls (show k+1<=ls.length from h);omega
def dz(w:ns)(B:Nat)(A:Option aiI)(ls:List (List Int)):Prop:=
 0<ls.length->∃b o,A=some ⟨b,o,none⟩/\b<B/\∀i,i<ls.length->∃d c,w.cell? ⟨b,o+i,none⟩=some (Y d (aU ls i).length c)/\bB w B d (aU ls i)/\(aU ls i).length<=c/\c<=maxLen
def dz.cM(h:dz w B A ls)(c:∀b o,b<B->w'.cell? ⟨b,o,none⟩=w.cell? ⟨b,o,none⟩):dz w' B A ls:=λe=>by obtain⟨b,o,rfl,d,hc⟩:=h e;refine⟨b,o,rfl,d,λi hi=>?_⟩;obtain⟨f,g,h1,j,l⟩:=hc i hi;exact⟨f,g,(c b _ d).trans h1,j.cM c,l⟩
def dz.q(h:dz w B A ls)(hq:Q w w')(c:B<=w.heap.size):dz w' B A ls:=h.cM λb o d=>hq.cell b o aa
def dz.more{B':Nat}(h:dz w B A ls)(c:B<=B'):dz w B' A ls:=λd=>by obtain⟨b,o,rfl,l,hc⟩:=h d;refine⟨b,o,rfl,aa,λi hi=>?_⟩;obtain⟨e,f,h1,g,j⟩:=hc i hi;exact⟨e,f,h1,g.more c,j⟩
def dz.aw{S:List Nat}(h:dz w B A ls)(k:av S w w')(d:B<=w.heap.size)(c:∀g,g∈S->B<=g):dz w' B A ls:=
 h.cM λb o f=>mR k aa (λe=>by have:=c b e;omega)
structure fT(w:ns)(lo hi:Nat)(v:rl)(ls:List (List Int))(vs:List rl):Prop where
 len:vs.length=ls.length
 row:w.ownsRow lo 52 1 v ls.length vs
 top:∀s,v.ownBlock=some s->s<hi
 el:∀i,i<ls.length->aK w lo (vs[i]?.getD undef) (aU ls i).length (aU ls i)
 eh:∀i s,i<ls.length->(vs[i]?.getD undef).ownBlock=some s->s<hi/\v.ownBlock≠some s
 ne:∀i j s,i<j->j<ls.length->(vs[i]?.getD undef).ownBlock=some s->(vs[j]?.getD undef).ownBlock≠some s
section
variable{w w':ns}{lo hi:Nat}{v:rl}{ls:List (List Int)}{vs:List rl}
def Ej(o:Option Nat):o=none\/o≠none:=by grind
def fT.q(h:fT w lo hi v ls vs)(q:Q w w'):fT w' lo hi v ls vs:=
 ⟨h.len,h.row.kept (row:=none) ⟨q.os,q.tape,q.output,q.size,λk c _=>q.block k c⟩ (Ej _),h.top,λi hi=>(h.el i hi).q q,h.eh,h.ne⟩
def fT.aw{S:List Nat}(h:fT w lo hi v ls vs)(k:av S w w')(hS:∀g,g∈S->hi<=g\/g<lo):fT w' lo hi v ls vs:=by
 have c:∀{e:EV}{u:rl}{n:Nat}{us:List rl},w.ownsRow lo e 1 u n us->(∀s,u.ownBlock=some s->s<hi)->w'.ownsRow lo e 1 u n us:=λ{e u n us} h1 l=>by
  refine⟨h1.1,?_⟩;rcases h1.2 with p|⟨g,d,f,rfl,m,j,r⟩
  ·simp_all
  ·refine .inr ⟨g,d,f,rfl,m,(k.block g (bF.1 j).1 λe=>?_).trans j,r⟩;have:=l g rfl;have:=hS g e;omega
 exact⟨h.len,c h.row h.top,h.top,λi hi=>⟨(h.el i hi).1,c (h.el i hi).2 λs o=>(h.eh i s hi o).1⟩,h.eh,h.ne⟩
def fT.rd(h:fT w lo hi v ls vs){c:Nat}(m:v=Y A n c)(t:hi<=w.heap.size):dz w w.heap.size A ls:=λo=>by
 subst m;obtain⟨g,p,q,u,r⟩:=h.row.form o;injection q with h1 s x;subst h1 s;refine⟨g,0,rfl,r,λi hi=>?_⟩;have hc:=h.row.cells (g:=g) rfl i;have he:=h.el i hi;obtain⟨j,l,hu⟩:=he.form
 have d:vs[i]?=some (Y j (aU ls i).length l):=by
  have:i<vs.length:=by rw[h.len];exact hi
  rw[aiX this] at hu⊢;simpa using hu
 rw[hu] at he;refine⟨j,l,?_,he.rd,?_⟩
 ·have f:=hc _ d;by_cases h0:i=0
  ·subst h0;simpa[Addr.add] using f
  ·simpa[Addr.add,h0] using f
 ·rcases he.dD with⟨e,h0⟩|⟨_,_,e,_,_,f,y⟩
  ·simp_all
  ·simp_all
def fT.form(h:fT w lo hi v ls vs):∃A c,v=Y A ls.length c/\ls.length<=c/\c<=maxLen:=by
 rcases h.row.2 with⟨e,h0⟩|⟨g,d,f,e,_,_,h1,i,_⟩
 ·grind
 ·grind
end
end
section
open Go.RowKit Go.WideShapes Go.ChangeShapes
def abL(c:Nat){l:Int}(s:dz w B A ls)(t:ls.length=n)(h1:0<=l)(L:l<=1000000000000)(hm:n<=9223372036854775807):
  UL Gz.prog 15 #[Y A n c,U O l] w λe w'=>(∃r:Int,e=be (U O r)/\(r<0\/(r=l-n-eD ls n/\0<=r)))/\w=w':=by
 by_cases h:l<n
 ·by_cases D:n<=4000000000000000000
  ·go_enter Gz.gf func15,ntmps15;exact Dl
  ·have hw:AS.wrap (l-(n:Int))=l-n:=aB _ ⟨aa,aa⟩;have hd:decide (l-(n:Int)<0)=true:=aA;go_enter Gz.gf func15,ntmps15;exact Dl
 ·have E:=af s;have HN:=af t;clear s t;have hw:AS.wrap (l-(n:Int))=l-n:=aB _ ⟨aa,aa⟩;have hd:decide (l-(n:Int)<0)=false:=aA;go_enter Gz.gf func15,ntmps15;go_wp2;go_loopw[1,5] (λx i wr=>∃(k:Nat)(z:Int),k<=n/\i=U O k/\x=U O z/\0<=z/\z<=l/\Hid (z=l-n-eD ls k)/\w=wr) (λ_ i _=>n-(intOf i).toNat)
  case atStart=>refine⟨0,_,aa,rfl,rfl,aa,aa,?_,?_⟩<;>first|(rw[Hid,PQ];omega)|trivial|rfl
  case round=>
   obtain⟨k,z,M,rfl,rfl,u,N,y,rfl⟩:=hrel;by_cases F:k<n
   ·have G:(k:Int)<n:=by omega
    obtain⟨b,o,rfl,D,hc⟩:=E.out im;obtain⟨H,I,f,J,g,j⟩:=hc k im;have C:=zC ls k im;obtain⟨m,p⟩:∃m,(aU ls k).length=m:=⟨_,rfl⟩;rw[p] at f g C;unfold maxLen at j;have T:=af λw=>adt H m I w u aa aa;have K:=af C;by_cases d:z<m
    ·rw[if_pos d] at T;go_wp2;refine(T.out _).mono ?_;rintro e w'⟨rfl,rfl⟩;exact Dl
    ·rw[if_neg d] at T;go_wp2;refine(T.out _).mono ?_;rintro e w'⟨rfl,rfl⟩;have hd:decide (z-(m:Int)<0)=false:=aA;go_wp2;go_roundw;case rel=>exact⟨k+1,_,aa,aH,rfl,aa,aa,by rw[Hid,y.out,K.out];omega,trivial⟩
     case measure=>exact bg
   ·have q:k=n:=by omega
    subst q;go_wp2;go_ret;exact⟨⟨_,rfl,.inr ⟨y.out,u⟩⟩,rfl⟩
def adu:(Gz.prog.info? 52).map (λi=>(i.zero,i.size,i.bytes))=some (some (Y none 0 0),1,24):=aC
def PS{vs:List rl}(h:vs.length=k)(c:k<n)(u:rl):(vs++an (n-k) (akn none 0 0)).set k u=(vs++[u])++an (n-(k+1)) (akn none 0 0):=by rw[aky _ _ aa,h,ajN,show n-k=(n-(k+1))+1 by omega,akl,aiG,aiK];rfl
def rJ(vs:List rl)(u:rl)(i:Nat)(h:i<vs.length):(vs++[u])[i]?.getD undef=vs[i]?.getD undef:=by grind
def uQ(vs:List rl)(u:rl):(vs++[u])[vs.length]?.getD undef=u:=lU
def abM(c:Nat)(hx:dz w B A ls)(N:ls.length=n)(lx:n<=1048576)(lt:eD ls n<=1048576)(hB:B<=w.heap.size):
  UL Gz.prog 21 #[Y A n c] w λe w'=>∃v vs,e=be v/\fT w' w.heap.size w'.heap.size v ls vs/\Q w w':=by
 have HX:=af hx;have HN:=af N;have HL:Hid (∀k,k<n->(aU ls k).length<=1048576):=λk R=>aJ (Fv ls aa) (by rw[N];exact lt);clear hx N lt;obtain⟨i0,hi,G,hz1,hz2⟩:=info_parts adu;have Hi:=af hi;clear hi;have S:=af G;clear G;have V:=af hz1;clear hz1;have BD:=af hz2;clear hz2;go_enter Gz.gf func21,ntmps21;go_wp2_with(at_make;refine wpList_make_full _ rfl (.tmp 6) (.tmp 6) 22 rfl w.heap.size 52 i0 (Y none 0 0) 1 (Gz.gu underlying22) Hi.out S.out V.out .i64 .i64 n n n rfl rfl rfl rfl xL jC (au _) ?_;intro H p f);have Ia:=f.size;have W:H.ownsRow w.heap.size 52 1 (Y (some ⟨w.heap.size,0,none⟩) n n) n (an n (Y none 0 0)):=by simpa[Value.cells,toList_madeCells_one] using p
 have hq:Q w H:=Q.jf f;have X:w.heap.size<H.heap.size:=(W.lt _ rfl).2;have Z:Hid (Q w H/\H.ownsRow w.heap.size 52 1 (Y (some ⟨w.heap.size,0,none⟩) n n) n ([]++an (n-0) (Y none 0 0))):=⟨hq,by simpa using W⟩;clear p f W hq
 go_loopw[4] (λi wr=>∃(k:Nat)(vs:List rl),k<=n/\i=U O k/\Hid (vs.length=k/\Q w wr/\w.heap.size<wr.heap.size/\wr.ownsRow w.heap.size 52 1 (Y (some ⟨w.heap.size,0,none⟩) n n) n (vs++an (n-k) (Y none 0 0))/\
  (∀j,j<k->aK wr w.heap.size (vs[j]?.getD undef) (aU ls j).length (aU ls j))/\(∀j s,j<k->(vs[j]?.getD undef).ownBlock=some s->s<wr.heap.size/\w.heap.size≠s)/\(∀i j s,i<j->j<k->(vs[i]?.getD undef).ownBlock=some s->(vs[j]?.getD undef).ownBlock≠some s))) (λi _=>n-(intOf i).toNat)
 case atStart=>exact⟨0,[],dC _,rfl,rfl,Z.out.1,X,Z.out.2,λ_ h=>absurd h aa,λ_ _ h=>absurd h aa,λ_ _ _ _ h=>absurd h aa⟩
 case round=>
  obtain⟨k,vs,R,rfl,hK⟩:=hrel;obtain⟨l,r,L,D,y,t,E⟩:=hK.out;clear hK Z;by_cases I:k<n
  ·have ka:(k:Int)<n:=by omega
   obtain⟨b,o,rfl,hb,hc⟩:=HX.out im;obtain⟨A',c',J,K,PA,Pi⟩:=hc k im;have h1:=(r.cell b (o+k) aa).trans J;have T:=af (adq (aU ls k).length c' (K.q r hB) rfl (by have:=HL.out k I;omega) aa);have KK:=af (TO l (TO r (TO L (TO D (TO y (TO t E))))));clear l r L D y t E hc J K PA;go_wp2;refine T.out.mono ?_;rintro e g⟨uu,rfl,F,x⟩;obtain⟨Au,cu,IJ⟩:=F.form;rw[IJ] at F⊢;obtain⟨u,z⟩:∃u,u=akn Au (aU ls k).length cu:=⟨_,rfl⟩;rw[<-z] at F;obtain⟨l,r,L,D,y,t,E⟩:=KK.out;have m:=D.kept (w':=g) (row:=none) ⟨x.os,x.tape,x.output,x.size,λk R _=>x.block k R⟩ (Ej _)
   have Nm:g.cell? ⟨w.heap.size,k,none⟩=some (Y none 0 0):=by rw[m.cellAt k aa,List.getElem?_append_right aa,l,ajN,show n-k=(n-(k+1))+1 by omega,akl];rfl
   have ii:=m.frozenAt k;have k8:=(m.stored k u).1;rw[PS l I u] at k8;have hu:∀s,u.ownBlock=some s->wr.heap.size<=s/\s<g.heap.size:=λs d=>F.2.lt s d
   have KZ:Hid ((vs++[u]).length=k+1/\Q w (g.setCell ⟨w.heap.size,k,none⟩ u)/\w.heap.size<(g.setCell ⟨w.heap.size,k,none⟩ u).heap.size/\(g.setCell ⟨w.heap.size,k,none⟩ u).ownsRow w.heap.size 52 1 (Y (some ⟨w.heap.size,0,none⟩) n n) n ((vs++[u])++an (n-(k+1)) (Y none 0 0))/\
     (∀j,j<k+1->aK (g.setCell ⟨w.heap.size,k,none⟩ u) w.heap.size ((vs++[u])[j]?.getD undef) (aU ls j).length (aU ls j))/\(∀j s,j<k+1->((vs++[u])[j]?.getD undef).ownBlock=some s->s<(g.setCell ⟨w.heap.size,k,none⟩ u).heap.size/\w.heap.size≠s)/\(∀i j s,i<j->j<k+1->((vs++[u])[i]?.getD undef).ownBlock=some s->((vs++[u])[j]?.getD undef).ownBlock≠some s)):=by
    have cC:(g.setCell ⟨w.heap.size,k,none⟩ u).heap.size=g.heap.size:=tZ;have Bi:=x.size;refine⟨by simp[l],(r.trans x).set (by show w.heap.size<=w.heap.size;omega) _,aa,k8,λj M=>?_,λj s M d=>?_,λi j s C M d=>?_⟩
    ·by_cases h:j<k
     ·rw[rJ vs u j aa];exact⟨(y j h).1,ownsRow_setCell_other ((y j h).q x).2 (λe=>(t j _ h e).2 rfl) u⟩
     ·obtain rfl:j=vs.length:=by omega
      rw[uQ];subst l;have o6:=F.mono (B':=w.heap.size) aa;exact⟨o6.1,ownsRow_setCell_other o6.2 (λe=>by have:=(hu _ e).1;have h9:wr.heap.size<=w.heap.size:=this;omega) u⟩
    ·rw[cC];by_cases h:j<k
     ·rw[rJ vs u j aa] at d;have:=t j s h d;omega
     ·obtain rfl:j=vs.length:=by omega
      rw[uQ] at d;have:=hu s d;omega
    ·rw[rJ vs u i aa] at d;by_cases h:j<k
     ·rw[rJ vs u j aa];exact E i j s C h d
     ·obtain rfl:j=vs.length:=by omega
      rw[uQ];intro e;have h1:=t i s aa d;have h2:=hu s e;omega
   rw[z] at KZ;clear KK l r L D y t E k8 m hu T z F;go_wp2;go_roundw;case rel=>exact⟨k+1,vs++[_],aa,aH,KZ.out⟩
   case measure=>exact bg
  ·have j':k=n:=by omega
   subst j';go_wp2;go_ret;refine⟨_,vs,rfl,⟨by rw[l,HN.out],by have h:=D;rw[ajN,List.replicate_zero,List.append_nil] at h;rw[HN.out];exact h,λs d=>by have:=aL d;simp at this;omega,λi hi=>y i xM,λi s hi d=>?_,λi j s C M d=>E i j s C (by rw[<-HN.out];exact M) d⟩,r⟩;have:=t i s xM d;exact⟨this.1,λe=>this.2 (aL e)⟩
end
end Go.Proofs.Q0
namespace Go.Proofs
open Go.Proofs.Tryz
abbrev Tryz.link:Go.Conc.Lib.WgLink:={add:=61,done:=63,wait:=65,relMerge:=90,disable:=91,enable:=92,inBubble:=93,associate:=94,fatal:=95,uOr:=96,uAdd:=97,raceRead:=98,uLoad:=99,uStore:=100,disassociate:=101,semrelease:=102,acquire:=107,isAssociated:=108,uCas:=109,raceWrite:=110,semacquire:=111,orU64:=128,addU64:=129,loadU64:=130,storeU64:=131,casU64:=139,tWgP:=130,tUP:=132,tAssoc:=133,tWg:=104,tAU:=101,tU64:=99,tUint:=109,tU32:=102,tPU32:=137,tPAU:=166,tPU64:=168,tNoCopy:=96,tANoCopy:=97,tAlign64:=98}
def Tryz.vu:Go.Conc.Lib.WgLib Tryz.prog Tryz.link:=
 ⟨func61,func63,func65,func90,func91,func92,func93,func94,func95,func96,func97,func98,func99,func100,func101,func102,func107,func108,func109,func110,func111,func128,func129,func130,func131,func139,underlying130,runUnderlying130,sizeOf130,isAgg130,zeroValue130,underlying132,runUnderlying132,sizeOf132,isAgg132,zeroValue132,underlying133,runUnderlying133,sizeOf133,isAgg133,zeroValue133,underlying104,runUnderlying104,sizeOf104,isAgg104,zeroValue104,underlying101,runUnderlying101,sizeOf101,isAgg101,zeroValue101,underlying99,runUnderlying99,sizeOf99,isAgg99,zeroValue99,underlying109,runUnderlying109,sizeOf109,isAgg109,zeroValue109,underlying102,runUnderlying102,sizeOf102,isAgg102,zeroValue102,underlying137,runUnderlying137,sizeOf137,isAgg137,zeroValue137,underlying166,runUnderlying166,sizeOf166,isAgg166,zeroValue166,underlying168,runUnderlying168,sizeOf168,isAgg168,zeroValue168,underlying0,runUnderlying0,sizeOf0,isAgg0,zeroValue0,underlying3,runUnderlying3,sizeOf3,isAgg3,zeroValue3,underlying4,runUnderlying4,sizeOf4,isAgg4,zeroValue4,underlying9,runUnderlying9,sizeOf9,isAgg9,zeroValue9,underlying20,runUnderlying20,sizeOf20,isAgg20,zeroValue20,underlying21,runUnderlying21,sizeOf21,isAgg21,zeroValue21,ai,ai⟩
end Go.Proofs
namespace Go.Proofs.Q0.aI
variable{v v':rl}{lo kc hi kw mx S':Option rl}
section
variable[ag]
section
variable{P:Program}{K:aF}{φ:Ren}
def uR(h:VR φ v v'):SR P K AR φ (asAddr v) (asAddr v'):=by cases h with|ptr h=>exact .pure h|nilPtr=>exact .dead (dB (P:=P) (α:=aiI) .nilDeref)|_=>exact .halt _ _
def uq(h:VR φ v v')(y:Nat)(c:BoundsCode):SR P K (λ_ a b=>a=b/\a<=y) φ (akx v y c) (akx v' y c):=by
 refine SR.bind (yW h) λf x _ g e=>?_;subst e;obtain⟨k,i⟩:=x;by_cases d:0<=i/\i<=y
 ·have hle:i.toNat<=y:=by omega
  simp only[d,and_self,if_true];exact .pure ⟨rfl,hle⟩
 ·simp only[d,if_false];exact uv
def yE(h:VR φ v v')(y:Nat){c:BoundsCode}:SR P K aY φ (akx v y c) (akx v' y c):=(uq h y c).mono λ_ _ _ x=>x.1
inductive fW(φ:Ren):Option rl->Option rl->Prop
 |none:fW φ none none
 |some {v v':rl}:VR φ v v'->fW φ (some v) (some v')
def fW.mono{a:Ren}{v v':Option rl}(h:fW φ v v')(k:Ren.le φ a):fW a v v':=by cases h with|none=>exact .none|some h=>exact .some (h.mono k)
def Ax(low:Option rl)(h m:Nat)(b:Bool):Sem (Nat×Nat×Nat):=do
 let l<-match low with
  |some v=>akx v h (if b then .slice3C else .sliceB)
  |none=>pure 0
 pure (l,h,m)
def E4{low a:Option rl}(c:fW φ low a)(h m:Nat)(b:Bool):SR P K aY φ (Ax low h m b) (Ax a h m b):=by
 cases c with
 |none=>exact .pure rfl
 |some d=>exact SR.bind (yE d h) λf x _ _ e=>by subst e;exact .pure rfl
def uw(a:Bool)(len b:Nat)(h1:fW φ lo kc)(h:fW φ hi kw)(i:fW φ mx S'):
  SR P K aY φ (ajV a len b lo hi mx) (ajV a len b kc kw S'):=by
 cases i with
 |none=>
  cases h with
  |none=>exact E4 h1 len b false
  |some f=>refine SR.bind (R:=aY) (.pure rfl) λj m _ c e=>?_;subst e;exact SR.bind (yE (f.mono c) m) λk x _ d e=>by subst e;exact E4 ((h1.mono c).mono d) x m false
 |some hm=>
  refine SR.bind (yE hm b) λk m _ d e=>?_;subst e;cases h with
  |none=>exact .halt _ _
  |some f=>exact SR.bind (yE (f.mono d) m) λj x _ g e=>by subst e;exact E4 ((h1.mono d).mono g) x m true
def Ek{low a:Option rl}(c:fW φ low a)(b:Bool):SR P K (λ_ x y=>x=(0,0,0)/\y=(0,0,0)) φ (Ax low 0 0 b) (Ax a 0 0 b):=by
 cases c with
 |none=>exact .pure ⟨rfl,rfl⟩
 |some d=>refine SR.bind (uq d 0 _) λf x _ _ e=>?_;obtain⟨rfl,e⟩:=e;obtain rfl:x=0:=aa;exact .pure ⟨rfl,rfl⟩
def Wz(h1:fW φ lo kc)(h:fW φ hi kw)(i:fW φ mx S'):
  SR P K (λ_ x y=>x=(0,0,0)/\y=(0,0,0)) φ (ajV true 0 0 lo hi mx) (ajV true 0 0 kc kw S'):=by
 cases i with
 |none=>
  cases h with
  |none=>exact Ek h1 false
  |some f=>refine SR.bind (R:=λ_ a b=>a=0/\b=0) (.pure ⟨rfl,rfl⟩) λj m l c e=>?_;obtain⟨rfl,rfl⟩:=e;refine SR.bind (uq (f.mono c) 0 _) λk x _ d e=>?_;obtain⟨rfl,e⟩:=e;obtain rfl:x=0:=aa;exact Ek ((h1.mono c).mono d) false
 |some hm=>
  refine SR.bind (uq hm 0 _) λk m _ d e=>?_;obtain⟨rfl,e⟩:=e;obtain rfl:m=0:=aa;cases h with
  |none=>exact .halt _ _
  |some f=>refine SR.bind (uq (f.mono d) 0 _) λj x _ g e=>?_;obtain⟨rfl,e⟩:=e;obtain rfl:x=0:=aa;exact Ek ((h1.mono d).mono g) true
def abN(t:EV)(h:VR φ v v')(h1:fW φ lo kc)(g:fW φ hi kw)(i:fW φ mx S'):
  SR P K VR φ (Instr.slice t v lo hi mx) (Instr.slice t v' kc kw S'):=by
 refine SR.bind (dX t) λw d _ q e=>?_;subst e;replace h1:=h1.mono q;replace g:=g.mono q;replace i:=i.mono q;replace h:=h.mono q;cases d with
 |string=>
  cases h with
  |string s=>
   dsimp only;cases i with
   |none=>exact SR.bind (uw false s.size s.size h1 g .none) λk x _ _ e=>by subst e;exact .pure (.string _)
   |some _=>exact .halt _ _
  |_=>exact .halt _ _
 |slice elem=>
  cases h with
  |dk n c=>refine SR.bind (uw true n c h1 g i) λk x _ _ e=>?_;subst e;obtain⟨l,h,m⟩:=x;refine SR.bind (eF elem) λr z _ _ e=>?_;subst e;refine .pure ?_;split<;>exact .dk _ _
  |slice n c o=>
   refine SR.bind (uw true n c h1 g i) λk x _ b e=>?_;subst e;obtain⟨l,h,m⟩:=x;refine SR.bind (eF elem) λr z _ f e=>?_;subst e;refine .pure ?_;split
   ·exact .slice _ _ ((o.mono b).mono f)
   ·exact .slice _ _ (((o.mono b).mono f).add _)
  |empty=>refine SR.bind (Wz h1 g i) λk x y b e=>?_;obtain⟨rfl,rfl⟩:=e;refine SR.bind (eF elem) λr z _ f e=>?_;subst e;exact .pure .empty
  |_=>exact .halt _ _
 |pointer arr=>
  have u:SR P K VR w (asAddr v>>=λa=>ajg arr>>=λd=>match d with
    |.array n elem=>ajV false n n lo hi mx>>=λx=>sizeOf elem>>=λsize=>pure (.slice (some (if x.2.2=x.1 then a else a.add (x.1*size))) (x.2.1-x.1) (x.2.2-x.1))
    |_=>stuck "Slice: array type expected") (asAddr v'>>=λa=>ajg arr>>=λd=>match d with
    |.array n elem=>ajV false n n kc kw S'>>=λx=>sizeOf elem>>=λsize=>pure (.slice (some (if x.2.2=x.1 then a else a.add (x.1*size))) (x.2.1-x.1) (x.2.2-x.1))
    |_=>stuck "Slice: array type expected"):=by
   refine SR.bind (uR h) λk a A j o=>?_;refine SR.bind (dX arr) λk d _ b e=>?_;subst e;cases d with
   |array n elem=>
    refine SR.bind (uw false n n ((h1.mono j).mono b) ((g.mono j).mono b) ((i.mono j).mono b)) λr x _ f e=>?_;subst e;refine SR.bind (eF elem) λr z _ p e=>?_;subst e;refine .pure ?_;split
    ·exact .slice _ _ (((o.mono b).mono f).mono p)
    ·exact .slice _ _ ((((o.mono b).mono f).mono p).add _)
   |_=>exact .halt _ _
  cases h<;>first|exact .halt _ _|exact u
 |_=>cases h<;>exact .halt _ _
def Za(t:EV)(h:VR φ v v')(h1:fW φ lo kc)(i:fW φ hi kw)(j:fW φ mx S'):
  SR P K VR φ (Instr.sliceAt t v lo hi mx) (Instr.sliceAt t v' kc kw S'):=by
 refine SR.bind (dX t) λm d _ b e=>?_;subst e;cases d with
 |array n elem=>
  refine SR.bind (uG (h.mono b)) λo a p c k=>?_;refine SR.bind (uw false n n ((h1.mono b).mono c) ((i.mono b).mono c) ((j.mono b).mono c)) λl x _ f e=>?_;subst e;refine SR.bind (eF elem) λl z _ g e=>?_;subst e;refine .pure ?_;split
  ·exact .slice _ _ ((k.mono f).mono g)
  ·exact .slice _ _ (((k.mono f).mono g).add _)
 |_=>exact abN t (h.mono b) (h1.mono b) (i.mono b) (j.mono b)
def NT{n:Nat}:SR P K aY φ (askRoom n) (askRoom n):=by
 unfold askRoom;split
 ·exact .quiet (.inl rfl) (.pure rfl)
 ·exact .pure rfl
def QV{xs:Array rl}{k:Nat}{x:rl}(h:xs[k]?=some x):xs[k]! =x:=eO
def ax.GS{xs ys:Array rl}(h:ax φ xs ys){k:Nat}(hd:VR φ (default:rl) default):VR φ xs[k]! ys[k]!:=by
 cases a:xs[k]? with
 |none=>
  have h1:¬k<xs.size:=eg;have b:¬k<ys.size:=by rw[<-h.size];exact h1
  rw[getElem!_neg xs k h1,getElem!_neg ys k b];exact hd
 |some x=>obtain⟨y,c,d⟩:=h.get a;rw[QV a,QV c];exact d
def DX:VR φ (default:rl) default:=.bool _
def ax.El{f g:Nat->rl}{n:Nat}(h:∀i,VR φ (f i) (g i)):ax φ ((ako n).map f) ((ako n).map g):=by refine⟨aj,λi x y a b=>?_⟩;rw[Array.getElem?_map] at a b;cases c:(ako n)[i]? with|none=>rw[c] at a;cases a|some k=>grind
def XB(p:bZ P)(t:EV){u m:rl}(h:VR φ v v')(hu:VR φ u m):SR P K VR φ (Instr.makeSlice t v u) (Instr.makeSlice t v' m):=by
 refine SR.bind (dX t) λA d _ o e=>?_;subst e;cases d with
 |slice elem=>
  refine SR.bind (uV (h.mono o)) λk len _ l e=>?_;subst e;refine SR.bind (uV ((hu.mono o).mono l)) λf c _ q e=>?_;subst e;refine SR.bind (l6 elem) λf B _ r e=>?_;subst e;dsimp only;split
  ·refine .dead ?_;split
   ·exact eG (dB _)
   ·split
    ·exact eG (dB _)
    ·exact eZ λ_=>eG (dB _)
  ·refine SR.bind (S:=VR) NT λf _ _ s _=>?_;refine SR.bind (eF elem) λf n _ w e=>?_;subst e
   have j:∀(k:Ren)(z g:Array rl),ax k z g->SR P K VR k (newRow elem (Array.map (λx=>z[x%z.size]!) (ako ((AS.wrap c).toNat*n)))>>=λa=>pure (akn (some a) (AS.wrap len).toNat (AS.wrap c).toNat))
     (newRow elem (Array.map (λx=>g[x%g.size]!) (ako ((AS.wrap c).toNat*n)))>>=λa=>pure (akn (some a) (AS.wrap len).toNat (AS.wrap c).toNat)):=λk z g b=>by
    refine SR.bind (zb elem (ax.El λi=>?_)) λf a C _ y=>.pure (.slice _ _ y);rw[b.size];exact b.GS DX
   split
   ·exact SR.bind (R:=ax) (.pure .empty) λf z g _ b=>j f z g b
   ·exact SR.bind (pk p elem) λf z g _ b=>j f _ _ b.cells
 |_=>exact .halt _ _
end
end
end Go.Proofs.Q0.aI
