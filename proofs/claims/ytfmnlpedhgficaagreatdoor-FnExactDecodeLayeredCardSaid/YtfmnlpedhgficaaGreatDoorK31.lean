import Derived.Test.YtfmnlpedhgficaaGreatDoorK30
import Derived.Conc.LeavingOf
set_option maxRecDepth 100000
set_option maxHeartbeats 8000000
set_option linter.all false
open Go.Value renaming int->U,slice->Y,bool->a5,agg->a9,pointer->bi,tuple->ci,iface->em
open Go.IntKind renaming i64->O
open Go.Obj renaming cells->ac
open Go.Ending renaming returned->be
open Array renaming getElem?_eq_getElem->ajB,getElem?_eq_none->alj,getElem?_map->ald
open Bool renaming false->Bz,true->AT
open Go renaming Addr->ajF,Calls->aiK,Goroutine->BE,Program->NO,Trace->akt,Value->so,World->AS,bodyPost_ret->ajz,stepG->ajM
open Go.ConcN renaming upd->TE
open Go.Frame renaming enter->ajC
open List renaming append_assoc->ajH,getElem?_eq_getElem->ajK,replicate->rl,replicate_succ->akg
open Option renaming map_some->akK,none->ns,some->an
namespace Go.Proofs
def DL{p:Prop}(h:p:=by(refine bA (k:=10) ah rfl rfl λK2 DE=>?_;refine MJ rfl rfl rfl rfl rfl nb rfl fH ah ?_;intro w9 b9 g9 s9;have o9:=o5.other g9 (.inr λe=>(by have h9:=L5 _ e;omega));have y9:=y.grown g9 λk e=>rV;replace y:=y9;refine DE.out _ _ ⟨y,(bC.q y).cell⟩ λhS=>?_;clear DE K2;refine bh ?_;refine iB [11] 11 ah al rfl ?_;clear hS;go_wp2;go_meet;exact⟨_,_,_,_,rfl,rfl,b9,o9,y,l5,aa,b9.lt⟩)):p:=h
def L9{p:Prop}(h:p:=by
  go_roundw;case rel=>exact⟨k+1,_,aa,aF,KZ⟩
  case measure=>simp[intOf];omega):p:=h
def sd{p:Prop}(h:p:=by have:=hS _ h;omega):p:=h
end Go.Proofs
namespace Go.Proofs.Q0
open Go.Proofs.Tryz
variable{w:AS}{k n:Nat}
section
open Go.RowKit Go.WideShapes Go.ChangeShapes
def Zh(A:Option ajF)(c:Nat){B:Nat}{d:List dp}(L:Int)(E:iw di w B A d)(F:d.length=n)(K:k<n)(hk:k<8)(y:1<=L/\L<=4)(M:B<=w.heap.size)(N:Tz w):
  aiK Gz.prog 22 #[Y A n c,U O k,U O L] w λe w'=>∃G P,e=be (a9 #[U O (iZ d k L).W,U O (iZ d k L).H,Y G (iZ d k L).xs.length P])/\Rd w' B G (iZ d k L).xs/\Q w w':=by
 have I:=ak.new w 40 #[U O 0,U O 0,Y ns 0 0];have h:=(Q.refl w).alloc (ac #[U O 0,U O 0,Y ns 0 0] 40);have T:=Xx k aa y (N.q h);have R:=af E;obtain⟨r,p⟩:∃r,iZ d k L=r:=⟨_,rfl⟩;rw[p];clear E;go_enter Gz.gf func22,ntmps22;go_wp2;refine T.mono ?_;rintro e w'⟨rfl,rfl⟩;clear T;by_cases f:k=0
 ·obtain rfl:zP=r:=by rw[<-p];exact(if_pos f).symm
  have S:iv k L= -1:=by subst f;rcases L4 y with rfl|rfl|rfl|rfl<;>rfl
  rw[S];go_wp2_with(refine eP (cs':=#[U O 0,U O 0,Y ns 0 0]) rfl _ _ _ rfl rfl _ rfl rfl I rfl fH ah ?_;intro V z s X);have C:=z.cell;refine ajz (v:=a9 #[U O 0,U O 0,Y ns 0 0]) (by simp[results,results22,go_sem,C]) rfl ⟨ns,0,rfl,Rd.nil _ _ _,h.grown s λg e=>by have:=aJ e;omega⟩
 ·obtain⟨i1,i2,_⟩:=AD k L aa y;obtain⟨i,hi⟩:=vI i1;rw[hi] at i2;have J:iZ d k L=(d[(iv k L).toNat]?).getD zP:=if_neg f;obtain⟨a,D⟩:=fS F (show i<n by omega);obtain rfl:a=r:=by rw[<-p];exact(J.trans (by rw[hi,Int.toNat_natCast,D];rfl)).symm
  rw[hi];obtain⟨b,o,rfl,hb,hc⟩:=R.out aa;obtain⟨u,⟨t,x,rfl,_,_,l⟩,m⟩:=hc i a D;have Z:(w.alloc (ac #[U O 0,U O 0,Y ns 0 0] 40)).rangeAt b (o+i*3) [U O a.W,U O a.H,Y t a.xs.length x]:=λj v hv=>(h.cell b _ aa).trans (m j v hv);have D8:=af (l.q h M);have hik:(i:Int)<n:=aa;clear hc m l J D F hi p;go_wp2_with(first|(refine wpList_load_mid rfl 40 (.tmp 15) rfl b (o+i*3) rfl _ _ Z (Gz.gu (Gz.gu underlying40)) rfl ah ?_)|(refine eP (cs':=#[U O a.W,U O a.H,Y t a.xs.length x]) rfl _ _ _ rfl rfl _ rfl rfl I rfl fH ah ?_;intro V z s X));have C:=z.cell;refine ajz (v:=a9 #[U O a.W,U O a.H,Y t a.xs.length x]) (by simp[results,results22,go_sem,C]) rfl ⟨t,x,rfl,D8.out.grown s aA (λg e=>by have:=aJ e;omega),h.grown s λg e=>by have:=aJ e;omega⟩
def adj{a:List dp}{L:Int}(b:List dp)(e:a.length=k)(c:k<8)(d:1<=L/\L<=4):iZ (a++b) k L=iZ a k L:=by
 unfold iZ;by_cases h0:k=0
 ·rw[if_pos h0,if_pos h0]
 ·obtain⟨i1,i2,_⟩:=AD k L ⟨aa,c⟩ d;rw[if_neg h0,if_neg h0,List.getElem?_append_left aa]
def ae0{α:Type}{a:List α}{p z:α}(b:a.length=k)(c:k<n):(a++rl (n-k) z).set k p=(a++[p])++rl (n-(k+1)) z:=by rw[List.set_append_right _ _ aa,b,Nat.sub_self,show n-k=(n-(k+1))+1 by omega,akg,List.set_cons_zero,ajH];rfl
def bg.afY{b hi:Nat}{v:so}{a:List so}(hr:w.ownsRow b 40 3 v n a)(e:a=(madeCells #[U O 0,U O 0,Y ns 0 0] (n*3)).toList)(h0:∀s,v.ownBlock=an s->s<hi)(c:b<=hi):bg di w b hi v (rl n zP):=
 bg.make (u:=Y ns 0 0) (by rw[e,Kg (s:=3) rfl (by omega)] at hr;exact hr) ⟨Own.nil _ _,by simp[Value.ownBlock]⟩ h0 c
def ML{A:Option ajF}{c B:Nat}{cs:List df}(L keep:Int){a1 a2:ajF}(hx:iw hQ w B A cs)(hn:cs.length=n)(lx:n<=1048576)(hl:∀(i:Nat)(x:df),cs[i]?=an x->x.ls.length<=1048576/\∀i,i<x.ls.length->bytes (aR x.ls i))(hB:B<=w.heap.size)(hT:Tb w)(hZ:Tz w)(he:gw w a1 a2 B)(k1:dz w a1)(k2:dz w a2):
  aiK Gz.prog 7 #[Y A n c,U O L,U O keep] w λe w'=>∃v,e=be v/\bg di w' w.heap.size w'.heap.size v (jD cs L keep)/\Q w w':=by
 have HX:=af hx;have HN:=af hn;have HL:=af hl;have HT:=af hT;have HZ:=af hZ;have HE:=af (And.intro he (And.intro k1 k2));clear hx hn hl hT hZ he k1 k2;by_cases hv:n<=8/\1<=L/\L<=4/\0<=keep
 case neg=>
  have HR:Hid (jD cs L keep=[]):=if_neg (by rw[HN.out];exact hv);by_cases h8:n<=8
  ·by_cases hL:1<=L/\L<=4
   all_goals
    go_enter Gz.gf func7,ntmps7;go_wp2;first|refine(Ab (af (decide_eq_true hL))).mono ?_|refine(Ab (af (decide_eq_false hL))).mono ?_
    rintro e w'⟨rfl,rfl⟩;go_wp2;go_ret;exact⟨_,rfl,by rw[HR.out];exact bg.nil,Q.refl _⟩
  ·go_enter Gz.gf func7,ntmps7;go_wp2;go_ret;exact⟨_,rfl,by rw[HR.out];exact bg.nil,Q.refl _⟩
 have HV:=af hv;obtain⟨Jw,M,N,UU⟩:=hv;obtain⟨i0,hi,mt,hz1,hz2⟩:=info_parts Tc;have Hi:=af hi;clear hi;have JD:=af mt;clear mt;have JE:=af hz1;clear hz1;have xK:=af hz2;clear hz2;go_enter Gz.gf func7,ntmps7;go_wp2;refine(Ab (af (decide_eq_true ⟨M,N⟩))).mono ?_;rintro e w'⟨rfl,rfl⟩;go_wp2_with(at_make;refine wpList_make_full _ rfl (.tmp 25) (.tmp 25) 24 rfl w.heap.size 40 i0 _ 3 (Gz.gu underlying24) Hi.out JD.out JE.out .i64 .i64 n n n rfl rfl rfl rfl uW kT (av _) ?_;intro w1 z m)
 have K0:Hid (eN cs L keep 0=an []/\Q w w1/\w.heap.size<w1.heap.size/\bg di w1 w.heap.size w1.heap.size (Y (an ⟨w.heap.size,0,ns⟩) n n) ([]++rl (n-0) zP)):=
  ⟨rfl,Q.iS m,(z.lt _ rfl).2,bg.afY z rfl (λs e=>(z.lt s e).2) m.size⟩
 clear z m;go_loopw[29] (λi wr=>∃(k:Nat)(D:List dp),k<=n/\i=U O k/\Hid (eN cs L keep k=an D/\Q w wr/\w.heap.size<wr.heap.size/\bg di wr w.heap.size wr.heap.size (Y (an ⟨w.heap.size,0,ns⟩) n n) (D++rl (n-k) zP))) (λi _=>n-(intOf i).toNat)
 case atStart=>exact⟨0,[],dk _,rfl,K0⟩
 case round=>
  obtain⟨k,D,hk,rfl,hK⟩:=hrel;clear K0;by_cases P:k<n
  ·have i6:(k:Int)<n:=by omega
   obtain⟨x,hx⟩:=fS HN.out P;have X:=af hx;obtain⟨b0,o0,rfl,hb0,RC⟩:=HX.out eD;obtain⟨u,⟨G,E,rfl,_,_,g3⟩,yu⟩:=RC k x hx;obtain⟨h1,h2,sw,h3⟩:=hK.out;have hr:wr.rangeAt b0 (o0+k*5) [U O x.W,U O x.H,a5 x.I,U O x.q,Y G x.ls.length E]:=λj v hv=>(h2.cell b0 _ aa).trans (yu j v hv);have f:=(Q.refl wr).alloc (ac #[U O x.W,U O x.H,a5 x.I,U O x.q,Y G x.ls.length E] 44);have bC:=ak.new wr 44 #[U O x.W,U O x.H,a5 x.I,U O x.q,Y G x.ls.length E];have sa:(wr.alloc (ac #[U O x.W,U O x.H,a5 x.I,U O x.q,Y G x.ls.length E] 44)).heap.size=wr.heap.size+1:=aj;have G3:=af g3;have H1:=af h1;have H3:=af h3;have R:=af h2;have TZ:=HZ.out.q (h2.trans f);clear hx RC yu g3 h1 h2 h3 hK;go_wp2_with(refine wpList_load_mid rfl 44 (.tmp 32) rfl b0 (o0+k*5) rfl _ _ hr (Gz.gu (Gz.gu underlying44)) rfl ah ?_);refine(QP k L aa ⟨M,N⟩ TZ).mono ?_;rintro e w'⟨rfl,rfl⟩;have F:=(qp H1.out).1;by_cases hle:dQ k L<=keep
   ·obtain⟨r,hR⟩:∃r,iZ D k L=r:=⟨_,rfl⟩;have Y':r.xs.length<=1048576:=by rw[<-hR];exact aI (QV (qp H1.out).2) (by omega)
    have HS:Hid (eN cs L keep (k+1)=if jc x r then an (D++[nj x r]) else ns):=by rw[Hid,eN,H1.out,X.out,<-hR];exact if_pos hle
    have R7:=H3.out.rd (by simp[F];omega) (av _);obtain⟨rk,Fr⟩:=HL.out k x X.out;obtain⟨t,ht⟩:∃t,jc x r=t:=⟨_,rfl⟩;obtain⟨p,hp⟩:∃p,nj x r=p:=⟨_,rfl⟩;have GG:=UM (r:=r) Fr;rw[ht,hp] at GG HS;have Z:=adj (rl (n-k) zP) F (show k<8 by omega) ⟨M,N⟩;rw[hR] at Z;generalize wr.alloc (ac #[U O x.W,U O x.H,a5 x.I,U O x.q,Y G x.ls.length E] 44)=J at f bC sa TZ⊢
    have R1:=af (λww(y:Q J ww)=>by have h:=Zh (an ⟨w.heap.size,0,ns⟩) n L (R7.q (f.trans y) (av _)) (by simp[F];omega) P aa ⟨M,N⟩ (f.trans y).size (TZ.q y);rw[Z] at h;exact h)
    have D1:=af λww A3 c3(y:Q J ww) l=>ag6 GG A3 E c3 (G3.out.q ((R.out.trans f).trans y) hB) (aI hB ((R.out.trans f).trans y).size) (HE.out.1.q ((R.out.trans f).trans y) hB) (HE.out.2.1.q ((R.out.trans f).trans y)) (HE.out.2.2.q ((R.out.trans f).trans y)) (HT.out.q ((R.out.trans f).trans y)) l (f.trans y).size Y';clear R7 GG Fr ht hp Z hr sa;have sa:=bC.lt;have cC:=bC.cell
    go_upto_region 8 with fail
    go_cut[10,11] from 39 to 47 (λpp b wx=>∃g A lo c,pp=bi (an ⟨g,0,ns⟩)/\b=a5 t/\Hid (ak wx g 40 #[U O p.W,U O p.H,Y A p.xs.length c]/\Own wx lo (Y A p.xs.length c) p.xs.length p.xs/\Q J wx/\J.heap.size<=lo/\J.heap.size<=g/\g<wx.heap.size))
    case first=>
     have y:Q J J.drew:=(Q.refl _).drew;refine fe (λww=>Q J ww/\(∀i,ww.cell? ⟨wr.heap.size,i,ns⟩=(#[U O x.W,U O x.H,a5 x.I,U O x.q,Y G x.ls.length E]:Array so)[i]?)) (λj=>decide (11<=j)) ah ⟨y,(bC.q y).cell⟩ λhS=>?_;refine ai 0 (h:=ai 1 (h:=ai 2 (h:=ai 3 (h:=?_))));refine Es (i:=4) (j:=9) ah rfl rfl rfl rfl (λo d=>?_) (λo d=>?_)
     ·(go_simp;refine(R1.out _ y).mono ?_;rintro e w3⟨A3,c3,rfl,l,q3⟩;(try replace nb:=nb.q q3);replace y:=y.trans q3;refine d.out _ _ ⟨y,(bC.q y).cell⟩ λhS=>?_;clear d o;refine bh ?_)
      refine Es (i:=5) (j:=9) ah rfl rfl rfl rfl (λo d=>?_) (λo d=>?_)
      ·(go_simp;(try have nl:=nb.lt);refine(D1.out _ _ _ y l).mono ?_;rintro e w5⟨v5,rfl,o5,C⟩;obtain⟨S,T,rfl⟩:=o5.form;have L5:=o5.2.lt;have l5:=y.size;(try replace nb:=nb.q C);replace y:=y.trans C;refine d.out _ _ ⟨y,(bC.q y).cell⟩ λhS=>?_;clear d o;refine bh ?_)
       refine ai 6 (h:=ai 7 (h:=ai 8 (h:=?_)));refine bA (k:=9) ah rfl rfl λo d=>?_;(go_simp;have nb:=ak.new w5 40 #[U O 0,U O 0,Y ns 0 0];have f:=(Q.refl w5).alloc (ac #[U O 0,U O 0,Y ns 0 0] 40);(try replace l:=l.q f (by have:=y.size;omega));(try replace o5:=o5.q f);have ln:=y.size;replace y:=y.trans f;refine d.out _ _ ⟨y,(bC.q y).cell⟩ λhS=>?_;clear d o;refine bh ?_)
       exact DL
      ·(go_simp;have nb:=ak.new w3 40 #[U O 0,U O 0,Y ns 0 0];have f:=(Q.refl w3).alloc (ac #[U O 0,U O 0,Y ns 0 0] 40);(try replace l:=l.q f (by have:=y.size;omega));(try replace o5:=o5.q f);have ln:=y.size;replace y:=y.trans f;refine d.out _ _ ⟨y,(bC.q y).cell⟩ λhS=>?_;clear d o;refine bh ?_)
       refine bA (k:=5) ah rfl rfl λo d=>?_;(go_simp;(try have nl:=nb.lt);refine(D1.out _ _ _ y l).mono ?_;rintro e w5⟨v5,rfl,o5,C⟩;obtain⟨S,T,rfl⟩:=o5.form;have L5:=o5.2.lt;have l5:=y.size;(try replace nb:=nb.q C);replace y:=y.trans C;refine d.out _ _ ⟨y,(bC.q y).cell⟩ λhS=>?_;clear d o;refine bh ?_)
       refine ai 6 (h:=ai 7 (h:=ai 8 (h:=?_)));exact DL
     ·(go_simp;have nb:=ak.new J.drew 40 #[U O 0,U O 0,Y ns 0 0];have f:=(Q.refl J.drew).alloc (ac #[U O 0,U O 0,Y ns 0 0] 40);(try replace l:=l.q f (by have:=y.size;omega));(try replace o5:=o5.q f);have ln:=y.size;replace y:=y.trans f;refine d.out _ _ ⟨y,(bC.q y).cell⟩ λhS=>?_;clear d o;refine bh ?_)
      refine bA (k:=4) ah rfl rfl λo d=>?_;(go_simp;refine(R1.out _ y).mono ?_;rintro e w3⟨A3,c3,rfl,l,q3⟩;(try replace nb:=nb.q q3);replace y:=y.trans q3;refine d.out _ _ ⟨y,(bC.q y).cell⟩ λhS=>?_;clear d o;refine bh ?_)
      refine bA (k:=5) ah rfl rfl λo d=>?_;(go_simp;(try have nl:=nb.lt);refine(D1.out _ _ _ y l).mono ?_;rintro e w5⟨v5,rfl,o5,C⟩;obtain⟨S,T,rfl⟩:=o5.form;have L5:=o5.2.lt;have l5:=y.size;(try replace nb:=nb.q C);replace y:=y.trans C;refine d.out _ _ ⟨y,(bC.q y).cell⟩ λhS=>?_;clear d o;refine bh ?_)
      refine ai 6 (h:=ai 7 (h:=ai 8 (h:=?_)));exact DL
    case rest=>
    obtain⟨g,S,l5,T,rfl,rfl,hc⟩:=hcut;obtain⟨b5,o5,C,z5,z6,z7⟩:=hc.out;have b5c:=b5.cell;clear hc R1 D1;cases t with
    |false=>
     have J7:Hid (jD cs L keep=[]):=by exact L8
     go_wp2;go_ret;exact⟨_,rfl,by rw[J7.out];exact bg.nil,R.out.trans (f.trans C)⟩
    |true=>
     obtain⟨g',eg,hg,WL,V⟩:=(H3.out.q (f.trans C)).put (by simp[F];omega) P (K:=di) (u:=Y S p.xs.length T) (x:=p) (a:=l5) (b:=wc.heap.size) ⟨o5,λs e=>(o5.2.lt s e).2⟩ aa (av _);injection eg with eg;injection eg with eg;subst eg;have HP:=af (V _ (by have:=(f.trans C).size;exact this) (av _) (av _));have WM:wc.there w.heap.size (k*3) 3:=WL;clear V WL;go_wp2_with((with_reducible refine wpList_store_mid ?_ 40 (.tmp 53) (.tmp 52) ?_ w.heap.size (k*3) #[U O p.W,U O p.H,Y S p.xs.length T] ?_ ?_ ?_ ?_ ?_ ?_);exact rfl;exact rfl;exact rfl;exact rfl;exact WM;kernel_rfl;simp[Value.oneCell'])
     have KZ:Hid (eN cs L keep (k+1)=an (D++[p])/\Q w (wc.setCells w.heap.size (k*3) [U O p.W,U O p.H,Y S p.xs.length T])/\w.heap.size<(wc.setCells w.heap.size (k*3) [U O p.W,U O p.H,Y S p.xs.length T]).heap.size/\
       bg di (wc.setCells w.heap.size (k*3) [U O p.W,U O p.H,Y S p.xs.length T]) w.heap.size (wc.setCells w.heap.size (k*3) [U O p.W,U O p.H,Y S p.xs.length T]).heap.size (Y (an ⟨w.heap.size,0,ns⟩) n n) ((D++[p])++rl (n-(k+1)) zP)):=by
      rw[Hid,M3];have h:=HP.out;rw[ae0 F P] at h;exact⟨HS.out,(R.out.trans (f.trans C)).grown (r7 _ _ _ _).1 (λg e=>by have:=aJ e;omega),by have:=(f.trans C).size;omega,h⟩
     clear HP WM;exact L9
   ·have HS:Hid (eN cs L keep (k+1)=an (D++[zP])):=by rw[Hid,eN,H1.out,X.out];exact if_neg hle
    have KZ:Hid (eN cs L keep (k+1)=an (D++[zP])/\Q w (wr.alloc (ac #[U O x.W,U O x.H,a5 x.I,U O x.q,Y G x.ls.length E] 44))/\w.heap.size<(wr.alloc (ac #[U O x.W,U O x.H,a5 x.I,U O x.q,Y G x.ls.length E] 44)).heap.size/\bg di (wr.alloc (ac #[U O x.W,U O x.H,a5 x.I,U O x.q,Y G x.ls.length E] 44)) w.heap.size (wr.alloc (ac #[U O x.W,U O x.H,a5 x.I,U O x.q,Y G x.ls.length E] 44)).heap.size (Y (an ⟨w.heap.size,0,ns⟩) n n) ((D++[zP])++rl (n-(k+1)) zP)):=by refine⟨HS.out,R.out.trans f,aa,?_⟩;have h:=(H3.out.q f).mono (av _) f.size;rw[show n-k=(n-(k+1))+1 by omega,akg] at h;rw[ajH];exact h
    go_wp2;exact L9
  ·have jn:k=n:=by omega
   subst jn;obtain⟨h1,h2,_,h3⟩:=hK.out;have HR:jD cs L keep=D:=by rw[jD,if_pos (by rw[HN.out];exact HV.out),HN.out,h1];rfl
   go_wp2;go_ret;exact⟨_,rfl,by rw[HR];simpa using h3,h2⟩
end
section
open Go.RowKit Go.WideShapes Go.ChangeShapes
def Sa(a:List dp):∀m,0<=jE a 1 m
 |0=>by rw[jE];decide
 |m+1=>by have:=Sa a m;rw[jE];omega
def WT{A:Option ajF}(n c:Nat){cs:List df}(L keep:Int){W X:ajF}(Z:iw hQ w w.heap.size A cs)(hn:cs.length=n)(hm:n<=9223372036854775807)(G:∀(i:Nat)(x:df),cs[i]?=an x->∀i,i<x.ls.length->bytes (aR x.ls i))
  (he:gw w W X w.heap.size)(k1:dz w W)(k2:dz w X)(hT:Tb w)(hZ:Tz w):
  aiK Gz.prog 3 #[.slice A n c,U O L,U O keep] w λe w'=>e=be (.bool AT):=by
 have H:=af Z;have o:=af hn;have F:=af (And.intro he (And.intro k1 k2));have N:=af hT;have HZ:=af hZ;obtain⟨I,y⟩:∃I,jD cs L keep=I:=⟨_,rfl⟩;obtain⟨m,z⟩:∃m,I.length=m:=⟨_,rfl⟩;obtain⟨t,B⟩:=aeY (cs:=cs) (L:=L) (keep:=keep);rw[y] at t B;rw[z] at t;have C:Hid (∀(i:Nat)(x:dp),I[i]?=an x->x.xs.length<=1024):=λi x h=>B x (oS h);have p:=af z;have D:=af y;have hz:=Sa I m;clear Z hn he k1 k2 hT hZ y B z;have b:=Q.refl w;go_enter Gz.gf func3,ntmps3;go_wp2;refine(adf c 1048576 H.out (av _) o.out aa aa hm).mono ?_;rintro e wv⟨⟨r,rfl,M⟩,q1⟩;(replace b:=b.trans q1;(try replace f:=f.q q1);(try replace j:=j.q q1);(try replace d:=d.q q1))
 rcases M with M|⟨M,J⟩
 ·go_wp2;go_ret;exact rfl
 have l:n<=1048576:=aa;have K:kM cs n<=1048576:=aa;have hrn:0<=r:=J
 have E:Hid (∀(i:Nat)(x:df),cs[i]?=an x->x.ls.length<=1048576/\ej x.ls x.ls.length<=1048576):=λi x h=>by have h1:=Ac h;have h2:=Gi cs (i+1) (n-(i+1));have h3:=(ia.1 h).1;have h4:=o.out;rw[show i+1+(n-(i+1))=n by omega] at h2;omega
 have P:Hid (∀(i:Nat)(x:df),cs[i]?=an x->x.ls.length<=1048576/\∀i,i<x.ls.length->bytes (aR x.ls i)):=λi x h=>⟨(E.out i x h).1,G i x h⟩;have R:=af K;clear M J K G q1;go_wp2;(refine(AE A c (H.out.q b (av _)) o.out l E.out b.size).mono ?_;rintro e w2⟨T,V,rfl,s,a⟩)
 (replace b:=b.trans a;(try replace f:=f.q a);(try replace j:=j.q a);(try replace d:=d.q a))
 clear a;go_wp2;refine(XE L keep (s.rd o.out (av _)) o.out l P.out (av _) (N.out.q b)).mono ?_;rintro e w3⟨v9,rfl,f,a⟩;rw[D.out] at f;(obtain⟨A8,c8,v,_,_⟩:=f.form;rw[p.out] at v;subst v)
 have s2:=b.size;(replace b:=b.trans a;(try replace f:=f.q a);(try replace j:=j.q a);(try replace d:=d.q a))
 have s3:=a.size;clear a s;go_wp2;(refine(AE A c (H.out.q b (av _)) o.out l E.out b.size).mono ?_;rintro e w4⟨T,V,rfl,j,a⟩)
 (replace b:=b.trans a;(try replace f:=f.q a);(try replace j:=j.q a);(try replace d:=d.q a))
 have s4:=a.size;clear a;go_wp2;(refine(ML L keep (j.rd o.out (av _)) o.out l P.out (av _) (N.out.q b) (HZ.out.q b) ((F.out.1.q b (av _)).mono b.size) (F.out.2.1.q b) (F.out.2.2.q b)).mono ?_;rintro e w5⟨v9,rfl,d,a⟩;rw[D.out] at d)
 (obtain⟨A8,c8,v,_,_⟩:=d.form;rw[p.out] at v;subst v)
 (replace b:=b.trans a;(try replace f:=f.q a);(try replace j:=j.q a);(try replace d:=d.q a))
 have s5:=a.size;clear a;go_wp2;(refine(EK (d.rd p.out aa) (f.rd p.out aa) (av _) (av _) p.out aa).mono ?_;rintro e w6⟨rfl,a⟩)
 (replace b:=b.trans a;(try replace f:=f.q a);(try replace j:=j.q a);(try replace d:=d.q a))
 have s6:=a.size;clear a;go_wp2;(refine(AE A c (H.out.q b (av _)) o.out l E.out b.size).mono ?_;rintro e w7⟨T,V,rfl,s,a⟩)
 have s7:=a.size;(replace b:=b.trans a;(try replace f:=f.q a);(try replace j:=j.q a);(try replace d:=d.q a))
 clear a;go_wp2;refine(adh (j.rd o.out aa) (s.rd o.out (av _)) (av _) (av _) o.out l E.out).mono ?_;rintro e w8⟨rfl,a⟩;(replace b:=b.trans a;(try replace f:=f.q a);(try replace j:=j.q a);(try replace d:=d.q a))
 have s8:=a.size;clear a s;go_wp2;refine(aan 1 j o.out l R.out E.out aa aa aa).mono ?_;rintro e w9⟨k,rfl,hk,S,hS,u⟩;clear j;have s9:=u.size;(replace b:=u.toQ b λg h=>sd;(try replace f:=f.az u λg h=>sd);(try replace d:=d.az u λg h=>sd))
 clear u hS;go_wp2;(refine(EK (d.rd p.out aa) (f.rd p.out aa) (av _) (av _) p.out aa).mono ?_;rintro e w10⟨rfl,a⟩)
 (replace b:=b.trans a;(try replace f:=f.q a);(try replace j:=j.q a);(try replace d:=d.q a))
 have s10:=a.size;clear a;go_wp2;refine(Yy 1 d p.out t C.out aa aa aa).mono ?_;rintro e w11⟨rfl,s,S,hS,u⟩;clear d;have UQ:=u.size;(replace b:=u.toQ b λg h=>sd;(try replace f:=f.az u λg h=>sd);(try replace d:=d.az u λg h=>sd))
 clear u hS;have d:=s;clear s;go_wp2;refine(Nu d p.out t C.out aa aa).mono ?_;rintro e w12⟨rfl,a⟩;(replace b:=b.trans a;(try replace f:=f.q a);(try replace j:=j.q a);(try replace d:=d.q a))
 have UR:=a.size;clear a;go_wp2;(refine(AE A c (H.out.q b (av _)) o.out l E.out b.size).mono ?_;rintro e w13⟨T,V,rfl,j,a⟩)
 have US:=a.size;(replace b:=b.trans a;(try replace f:=f.q a);(try replace j:=j.q a);(try replace d:=d.q a))
 clear a;go_wp2;(refine(ML L keep (j.rd o.out (av _)) o.out l P.out (av _) (N.out.q b) (HZ.out.q b) ((F.out.1.q b (av _)).mono b.size) (F.out.2.1.q b) (F.out.2.2.q b)).mono ?_;rintro e w14⟨v9,rfl,s,a⟩;rw[D.out] at s)
 (obtain⟨A8,c8,v,_,_⟩:=s.form;rw[p.out] at v;subst v)
 have UT:=a.size;(replace b:=b.trans a;(try replace f:=f.q a);(try replace j:=j.q a);(try replace d:=d.q a))
 clear a j;go_wp2;(refine(EK (s.rd p.out aa) (f.rd p.out aa) (av _) (av _) p.out aa).mono ?_;rintro e w15⟨rfl,a⟩)
 (replace b:=b.trans a;(try replace f:=f.q a);(try replace j:=j.q a);(try replace d:=d.q a))
 clear a s;go_wp2;refine(Nu d p.out t C.out aa aa).mono ?_;rintro e w16⟨rfl,a⟩;go_wp2;go_ret;exact rfl
end
section
open Go.RowKit Go.WideShapes Go.ChangeShapes
theorem Gj{a:ajF}{v:so}(h:w.cell? a=an v):a.block<w.heap.size/\a.spot=ns:=by
 unfold World.cell? at h;rcases dg a.block w.heap.size with b|b
 ·refine⟨b,?_⟩;rcases c:a.spot with _|s
  ·rfl
  ·grind
 ·simp_all
def ag8:Open.wU:=by
 intro w v J K many a h;obtain⟨p,m,c,rfl,hm,y,l,hc⟩:=h.data;have z:=(Gj h.e1).1;have B:=(Gj h.e2).1
 obtain⟨xs,C,D⟩:∃xs:List Int,xs.length=m/\bB w w.heap.size p xs:=by
  rcases y with⟨rfl,rfl⟩|⟨t,rfl,hd⟩
  ·exact⟨[],rfl,bB.nil _ _ _⟩
  ·by_cases h0:m=0
   ·subst h0;exact⟨[],rfl,bB.nil _ _ _⟩
   ·have q:∀j,∃x:Int,j<m->w.cell? (t.add j)=an (.int .u8 x):=λj=>by
     by_cases M:j<m
     ·simp_all
     ·simp[*]
    obtain⟨f,u⟩:=Classical.axiomOfChoice q;have c0:=Gj (u 0 aa);obtain⟨b,o,s⟩:=t;obtain⟨E,F⟩:=c0;subst F;refine⟨(List.range m).map f,aj,λ_=>⟨b,o,rfl,E,λi hi=>?_⟩⟩;have g:i<m:=eY;have hc:=u i g
    have G:(⟨b,o,ns⟩:ajF).add i=⟨b,o+i,ns⟩:=by
     unfold Addr.add;by_cases r:i=0
     ·simp
     ·rw[if_neg r]
    rw[G] at hc;rw[hc];simp[g]
 refine(Nk c many a D C ⟨l,by unfold maxLen;omega⟩ (av _) ⟨h.e1,h.e2,z,B⟩ h.c1 h.c2).mono ?_;intro e N d;obtain⟨h1,_⟩:=d;cases H:fj xs many a with
 |none=>simp_all
 |some L=>rw[H] at h1;obtain⟨v,rfl,I⟩:=h1;obtain⟨A,c,rfl⟩:=I.form;exact⟨A,many.toNat,c,AT,rfl⟩
end
end Go.Proofs.Q0
namespace Go.Proofs.Q0.aL
section
variable[ag]
open Go.Conc
open Go.ConcN (sumTo upd sumTo_upd upd_same upd_ne)
omit [ag] in
def mapM_pure(ts:Array so)(f:ResultVar->Sem so)(a:∀t,f (.tmp t)=pure (ts.getD t undef)):∀(l:List ResultVar),(∀r∈l,∃t,r=.tmp t)->∃vs:List so,(l.mapM f:Sem (List so))=pure vs
 |[],_=>⟨[],rfl⟩
 |r::l,h=>by obtain⟨vs,b⟩:=mapM_pure ts f a l λx c=>h x (by simp[c]);obtain⟨t,rfl⟩:=h r aj;refine⟨ts.getD t undef::vs,?_⟩;rw[List.mapM_cons,a,b];rfl
omit [ag] in
def Nv{fn:Func}(h:∀r∈fn.results,∃t,r=.tmp t)(ts:Array so):∃v,results fn ts=pure v:=by
 obtain⟨b,c⟩:=mapM_pure ts (λr=>match r with|.tmp t=>pure (ts.getD t undef)|.cell a t=>do loadVar t (<-asAddr (ts.getD a undef))) (λt=>rfl) fn.results.toList λr d=>h r (jI.1 d);refine⟨if h:b.toArray.size=1 then b.toArray[0] else .tuple b.toArray,?_⟩;unfold results;rw[Array.mapM_eq_mapM_toList]
 erw [c]
 rfl
section
variable{P:NO}{K:aH}
def afZ(J:dA P){φ:Ren}{g:BE}{wg:AS}{a:BE}{w:AS}{R:so->Array Obj->Prop}(h:dK P K [] φ g wg a w)(L:Lv P g)(M:jw P R g wg.heap):
  ∃z v v',R v wg.heap/\Ren.le φ z/\VR z v v'/\a.status=.running/\∀d,ajM P.two AT a (w.at d)=.ended (.done v') (w.at d) #[]:=by
 obtain⟨fr,c,N,Q,rfl,rfl,e,A,S,_,_⟩:=h;obtain⟨f0,e0,_⟩:=L
 have B:N=[]:=by exact MA
 subst B;cases A;obtain⟨fn,v,n,H,o,p,⟨r,s⟩,T⟩:=M;change fr.mode=.returning at n;change fr.defers=[] at H;change P.funcs[fr.fn]?=an fn at o
 have k:c.mode=.returning:=by have h:=e.mode;rw[n] at h;generalize c.mode=q at h;cases h;rfl
 have V:c.defers=[]:=by have hd:=e.defers;rw[H] at hd;generalize c.defers=t' at hd;cases hd;rfl
 have C:=e.kind.2;obtain⟨W,t,l,f,u,_,D,_⟩:=J fr.fn e.jX;rw[o] at l;cases l;have f:P.two.funcs[c.fn]?=an t:=by rw[e.fn];exact f
 have E:results t c.tmps=results fn c.tmps:=by unfold results;rw[u]
 obtain⟨v1,x⟩:=Nv r fr.tmps;obtain⟨v',y⟩:=Nv r c.tmps
 have ev:v1=v:=by obtain⟨X,j,_⟩:=p wg rfl;change(results fn fr.tmps).run P wg=.ok v X at j;rw[x] at j;cases j;rfl
 subst ev;have F:WR K φ (wg.on (spliced wg w) wg.drawn) w:=⟨S,λi q=>zB wg w i q⟩;have I:=EG (P:=P) (K:=K) fn D e.tmps;rw[x,y] at I;obtain⟨z,b,Z,d,g1,g2,_,_,g5,_⟩:=I.run #[] F (show(pure v1:Sem so).run P _=.ok v1 _ from rfl);have eb:b=v':=eY;subst eb;refine⟨z,v1,b,T,g5.le,g2,rfl,λd=>?_⟩
 have e0:ajM P.two AT (G c ([]++[])) (w.at d)=unwind P.two AT c [] ns (w.at d):=by unfold ajM G;dsimp only;rw[k];rfl
 rw[e0];unfold unwind;rw[V];rw[k];rw[f];dsimp only;rw[E,y];show GStep.after (seen P.two c.fn #[]) (doReturn P.two AT c [] ns b (w.at d))=_;have m:P.two.inits.idxOf? c.fn=ns:=by rw[e.fn];exact s
 simp only[doReturn,C,GStep.after,m];rfl
end
section
variable{P:NO}{Sh:Loc->Prop}{Post:so->AS->Prop}
def Ip(P:NO)(Sh:Loc->Prop)(Post:so->AS->Prop)(c:Nat)(m:Machine)(t:akt):Prop:=
 ∃(b:Array BE)(a:BE)(w:AS)(sl:Option (Nat×Nat))(q:Nat->Nat),m=crowd b w sl/\b[0]?=an a/\dT P Sh b w t q/\a.status=.running/\
  (∀d,∃v,ajM P AT a (w.at d)=.ended (.done v) (w.at d) #[]/\Post v (w.at d))/\c=sumTo b.size q
theorem abv(E:Nat)(m:Machine)(t:akt)(h:Ip P Sh Post E m t):
  (∃o w f,stepT P m=(.ended o w,f)/\Go.Conc.Good P Post m o w (t++f))\/(∃m' f s,stepT P m=(.next m',f)/\s<E/\Ip P Sh Post s m' (t++f)):=by
 obtain⟨y,a,w,sl,q,rfl,h0,hF,c,l,rfl⟩:=h;obtain⟨i,g,d,r,hi,F,u⟩:=crowd_pick (P:=P) (w:=w) (sl:=sl) (hF.awake h0 c) ⟨0,a,h0,c⟩;rcases jJ i with rfl|p
 ·obtain rfl:g=a:=by rw[h0] at hi;exact(aJ hi).symm
  obtain⟨v,he,H⟩:=l d;have b:=runT_many_ended (P:=P) (sl:=r) (i:=0) hi (show ajM P (0==0) g (w.at d)=_ from he);have I:MemOp.ofEvents 0 g.frame.fn g.frame.place #[]=#[]:=rfl;rw[I] at b;refine .inl ⟨_,_,_,u.trans b,v,rfl,H,by simpa using hF.ct.nr,by simpa using hF.over,⟨λx z=>?_,rfl⟩,λj x z A=>?_⟩
  ·obtain⟨j,A⟩:=List.mem_iff_getElem?.1 z;rw[List.getElem?_drop] at A;exact⟨_,(hF.lv.old (1+j) x aa (by simpa[crowd] using A)).leaves⟩
  ·have hq:=hF.lv.old j x aa z;refine⟨q j,?_⟩;exact hq.hears _
 ·have hq:=hF.lv.old i g p hi;have ur:(i==0)=Bz:=fu;have aV:=(bE.1 hi).1;cases I':q i with
  |zero=>rw[I'] at hq;rw[hq.1] at F;cases F
  |succ k=>
   rw[I'] at hq;rcases hq with⟨L,_⟩|⟨_,J,es,hm,BU,B⟩
   ·simp_all
   have b:=runT_crowd_go (P:=P) (sl:=r) (i:=i) hi yX;have C:=hF.GZ (n:=d) hi p hm B
   have D:woken P g J (w.at d) a=a:=by
    unfold woken;split
    ·exact Go.Conc.again_running _ (.inl c)
    ·rfl
   have G:sumTo y.size (TE q i k)+(k+1)=sumTo y.size q+k:=by exact DG
   exact .inr ⟨_,_,sumTo y.size (TE q i k),u.trans b,aa,_,a,w.at d,r,TE q i k,rfl,by rw[Array.getElem?_setIfInBounds_ne aa,ald,h0,akK,D],C,c,λe=>l e,aj⟩
def Zi{b:Array BE}{a:BE}{w:AS}{sl:Option (Nat×Nat)}{t:akt}{q:Nat->Nat}(h0:b[0]?=an a)(hF:dT P Sh b w t q)(c:a.status=.running)
  (e:∀d,∃v,ajM P AT a (w.at d)=.ended (.done v) (w.at d) #[]/\Post v (w.at d)):
  ∃N last o w' f,runNT P (N+1) (crowd b w sl) t=(.ended o w',f)/\runN P N (crowd b w sl)=.next last/\Go.step P last=.ended o w'/\Go.Conc.Good P Post last o w' f:=
 run_of_inv Nat.lt_wfRel.wf (Ip P Sh Post) (Go.Conc.Good P Post) (λg m t h=>abv g m t h) _ _ _ ⟨b,a,w,sl,q,rfl,h0,hF,c,e,rfl⟩
end
end
end Go.Proofs.Q0.aL
namespace Go.Proofs.Q0.Open
section
open Go.Conc Go.ConcN aL
variable[aC]
structure oa(K:aH)(φ ψ:Ren)(w w':AS):Prop where
 le:Ren.le φ ψ
 io:jl w w'
 size:w.heap.size<=w'.heap.size
 apart:∀c,c<w.heap.size->(∀b,φ b=an c->K.ro b\/K.tok b)->w'.heap[c]?=w.heap[c]?
 kR:∀b c,ψ b=an c->φ b=an c\/w.heap.size<=c
def oa.refl(K:aH)(φ:Ren)(w:AS):oa K φ φ w w:=⟨Ren.le_refl _,.refl _,av _,λ_ _ _=>rfl,λ_ _ h=>.inl h⟩
def oa.trans{K:aH}{φ ψ f:Ren}{a b c:AS}(h:oa K φ ψ a b)(k:oa K ψ f b c):oa K φ f a c:=
 ⟨Ren.le_trans h.le k.le,h.io.trans k.io,aI h.size k.size,λx g i=>by
  rw[k.apart x (Nat.lt_of_lt_of_le g h.size) λy j=>?_,h.apart x g i];rcases h.kR y x j with e|e
  ·simp_all
  ·omega,λx y d=>by
  rcases k.kR x y d with e|e
  ·exact h.kR x y e
  ·exact .inr (aI h.size e)⟩
def ag9(E:Env)(j:wU){K:aH}(hG:K.G=Gz.prog.globals.size)(C:∀b,E.J.cl b<->K.tok b)
  (hB:@dA aC.toag Gz.prog)(hC:@ee aC.toag Gz.prog)(hF:@dY aC.toag Gz.prog K){Q:BE->Array Obj->Prop}{x:BE×AS}(hx:Acc (fO Gz.prog) x):
  ∀(i:Array BE)(a:BE)(w:AS)(sl:Option (Nat×Nat))(t:akt)(q:Nat->Nat)(φ:Ren)(Sh:Loc->Prop),bG Gz.prog Q x.1 x.2->@dK aC.toag Gz.prog K [] φ x.1 x.2 a w->dT Tryz.prog Sh i w t q->i[0]?=an a->lD Sh φ->
   ∃N f a' w' D t' q' ψ g' k F,runNT Tryz.prog N (crowd i w sl) t=(.next (crowd f w' D),t')/\f[0]?=an a'/\dT Tryz.prog F f w' t' q'/\bG Gz.prog Q g' k/\Lv Gz.prog g'/\@dK aC.toag Gz.prog K [] ψ g' k a' w'/\oa K φ ψ w w':=by
 induction hx with
 |intro x _ ih=>
  intro i a w sl t q φ Sh hW hD H ha I;obtain⟨N1,L,a1,M,P,t1,q1,g,g1,R,S,z1,e1,f1,l,T,d,pm,m,V,n⟩:=Y7 (Sh:=Sh) hB hC E.TS hG hF (x:=x) hW.acc (sumTo i.size q) i a w sl t q φ (av _) hW hD (by rw[aC.two];exact H) ha I;rw[aC.two] at S f1;have o:oa K φ g w M:=⟨d.le,⟨d.os,d.out⟩,d.size,λc hc h=>d.apart c hc h,λb c hb=>(d.fresh b c hb).imp_right λh=>h.2⟩;rcases V with hl|hA
  ·exact⟨N1,L,a1,M,P,t1,q1,g,g1,R,Sh,S,e1,f1,l,hl,n,o⟩
  ·obtain⟨N2,W,a2,w2,X,t2,q2,p,g2,r,Z,r2,e2,f2,s,hW2,u,hD2,v,y,z,A,B,_⟩:=afH j hG C hA l n f1 e1 m;have JP:oa K g p M w2:=⟨v,y,z,λc hc _=>A c hc,B⟩
   have hN:fO Gz.prog (g2,r) x:=by
    rcases T with e|h
    ·rw[<-e];exact u
    ·exact u.trans h
   obtain⟨N3,gs3,a3,w3,sl3,t3,q3,ψ3,g3,wg3,Sh3,r3,e3,f3,rG,xN,hD3,hk3⟩:=ih (g2,r) hN W a2 w2 X t2 q2 p Z hW2 hD2 f2 e2 s;refine⟨N1+(N2+N3),gs3,a3,w3,sl3,t3,q3,ψ3,g3,wg3,Sh3,?_,e3,f3,rG,xN,hD3,(o.trans JP).trans hk3⟩;rw[runNT_add,S];show runNT _ (N2+N3) _ _=_;rw[runNT_add,r2];exact r3
def ae1{a:BE}{w:AS}:dT Tryz.prog (λ_=>False) #[a] w #[] (λ_=>0):=by
 have he:∀i x,touchAt (#[]:akt) i=an x->False:=λi x h=>by simp[touchAt,Trace.act?] at h
 exact⟨leavers_one _ _,⟨λi op x hi=>by simp at hi,λk _ _ l h=>h.elim,λk _ _ l h=>h.elim,λl _ _ i a b=>(he i a b).elim,λl _ _ i a b=>(he i a b).elim,past_nil.clean,λi op hi=>by simp at hi⟩,aj,λi x c=>(he i x c).elim,past_nil.over,rfl,aj,λ_ h=>h.elim⟩
end
end Go.Proofs.Q0.Open
namespace Go.Proofs.Q0.aL
variable{b:Nat}
section
variable[ag]
theorem Hk(gc:∀v,ag.jk v)(φ:Ren):∀v:so,∃x,VR φ x v
 |.bool b=>⟨_,.bool b⟩
 |.agg xs=>by
  have h:∀i:Nat,∃x,∀y,xs[i]?=an y->VR φ x y:=λi=>by
   by_cases hi:i<xs.size
   ·obtain⟨x,g⟩:=Hk gc φ xs[i];exact⟨x,λy d=>by rw[ajB hi] at d;cases d;exact g⟩
   ·exact⟨undef,λy d=>by rw[alj aa] at d;cases d⟩
  refine⟨.agg (Array.ofFn λi:Fin xs.size=>(h i).choose),.agg aj λi x y g d=>?_⟩;have hi:i<xs.size:=(bE.1 d).1;rw[Array.getElem?_ofFn,dif_pos hi] at g;cases g;exact(h i).choose_spec y d
 |.tuple xs=>by
  have h:∀i:Nat,∃x,∀y,xs[i]?=an y->VR φ x y:=λi=>by
   by_cases hi:i<xs.size
   ·obtain⟨x,g⟩:=Hk gc φ xs[i];exact⟨x,λy d=>by rw[ajB hi] at d;cases d;exact g⟩
   ·exact⟨undef,λy d=>by rw[alj aa] at d;cases d⟩
  refine⟨.tuple (Array.ofFn λi:Fin xs.size=>(h i).choose),.tuple aj λi x y g d=>?_⟩;have hi:i<xs.size:=(bE.1 d).1;rw[Array.getElem?_ofFn,dif_pos hi] at g;cases g;exact(h i).choose_spec y d
 |.int k n=>⟨_,.int k n⟩
 |.float k b=>⟨_,.aW (gc _) ⟨λ_ e=>cB,λ_ e=>cB,λ_ e=>cB⟩⟩
 |.complex k a b=>⟨_,.aW (gc _) ⟨λ_ e=>cB,λ_ e=>cB,λ_ e=>cB⟩⟩
 |.string s=>⟨_,.string s⟩
 |.pointer a=>⟨_,.aW (gc _) ⟨λ_ e=>cB,λ_ e=>cB,λ_ e=>cB⟩⟩
 |.slice a n c=>⟨_,.aW (gc _) ⟨λ_ e=>cB,λ_ e=>cB,λ_ e=>cB⟩⟩
 |.map r=>⟨_,.aW (gc _) ⟨λ_ e=>cB,λ_ e=>cB,λ_ e=>cB⟩⟩
 |.chan r=>⟨_,.aW (gc _) ⟨λ_ e=>cB,λ_ e=>cB,λ_ e=>cB⟩⟩
 |.func f a b=>⟨_,.aW (gc _) ⟨λ_ e=>cB,λ_ e=>cB,λ_ e=>cB⟩⟩
 |.nilFunc=>⟨_,.nilFunc⟩
 |.iface t v=>⟨_,.aW (gc _) ⟨λ_ e=>cB,λ_ e=>cB,λ_ e=>cB⟩⟩
 |.nilIface=>⟨_,.nilIface⟩
termination_by v=>SizeOf.sizeOf v
decreasing_by
 all_goals
  have:=Array.sizeOf_getElem xs i hi;simp;omega
def mv(n:Nat)(ts:List Nat):so->so
 |.iface u (.pointer (an a))=>if a.block∈ts then .iface u (.pointer (an {a with block:=n+ts.idxOf a.block})) else .iface u (.pointer (an a))
 |v=>v
open Classical in
noncomputable def tQ(gc:∀v,ag.jk v)(φ:Ren)(m:Value->Value)(v:Value):Value:=if VR φ (m v) v then m v else(Hk gc φ v).choose
theorem af0(gc:∀v,ag.jk v)(φ:Ren)(m:so->so)(v:so):VR φ (tQ gc φ m v) v:=by
 unfold tQ;split
 ·omega
 ·grind
theorem abw(gc:∀v,ag.jk v){φ:Ren}{m:so->so}{v:so}(h:VR φ (m v) v):tQ gc φ m v=m v:=if_pos h
def rowsOf(h:Array Obj):Ren:=λb=>match h[b]? with|some (.cells ..)=>an b|_=>ns
theorem En{h:Array Obj}{b c:Nat}(e:rowsOf h b=an c):c=b/\∃cs t f,h[b]?=an (.cells cs t f):=by
 unfold rowsOf at e;split at e
 ·grind
 ·cases e
theorem OC{h:Array Obj}{b:Nat}{cs:Array so}{t:TypeId}{f:Nat×Nat}(e:h[b]?=an (.cells cs t f)):rowsOf h b=an b:=by unfold rowsOf;rw[e]
def ff(ts:List Nat)(h:Array Obj):Ren:=λb=>if b<h.size then rowsOf h b else ts[b-h.size]?
noncomputable def nL(gc:∀v,ag.jk v)(ts:List Nat)(h:Array Obj)(tok:Bool):Obj->Obj
 |.cells cs t _=>if tok then .stringIter default 0 else .cells (cs.map (tQ gc (ff ts h) (mv h.size ts))) t (0,cs.size)
 |_=>.stringIter default 0
noncomputable def startHeap(gc:∀v,ag.jk v)(G:Nat)(ts:List Nat)(h:Array Obj):Array Obj:=(h.mapIdx λb o=>nL gc ts h (b==G) o)++(ts.map λ_=>Obj.stringIter default 0).toArray
def qu(ts:List Nat)(h:Array Obj)(G:Nat):aH where
 ro b:=b<h.size/\(rowsOf h b).isSome=AT/\b≠G
 tok b:=b=G\/(h.size<=b/\b<h.size+ts.length)
 G:=G
variable{ts:List Nat}{h:Array Obj}{G:Nat}(gc:∀v,ag.jk v)
theorem Eo(a:b<h.size):ff ts h b=rowsOf h b:=if_pos a
theorem zG(a:h.size<=b):ff ts h b=ts[b-h.size]?:=if_neg (pR.2 a)
theorem Eh{b:Nat}{cs:Array so}{t:TypeId}{f:Nat×Nat}(e:h[b]?=an (.cells cs t f)):ff ts h b=an b:=by rw[Eo (Array.getElem?_eq_some_iff.1 e).1,OC e]
theorem Yz{b:Nat}(a:b∈ts):ff ts h (h.size+ts.idxOf b)=an b:=by rw[zG aa,Nat.add_sub_cancel_left];rw[ajK (List.idxOf_lt_length_of_mem a),List.getElem_idxOf]
theorem Ei(hb:b<h.size):(startHeap gc G ts h)[b]?=(h[b]?).map (nL gc ts h (b==G)):=by unfold startHeap;rw[Array.getElem?_append_left uY];simp
theorem Ej{b:Nat}(hb:h.size<=b)(a:b<h.size+ts.length):(startHeap gc G ts h)[b]?=an (.stringIter default 0):=by unfold startHeap;rw[Array.getElem?_append_right uY];rw[Array.size_mapIdx,List.getElem?_toArray,List.getElem?_map,ajK aa];rfl
theorem vu:(startHeap gc G ts h).size=h.size+ts.length:=by simp[startHeap]
theorem XZ(a:h.size+ts.length<=b):(startHeap gc G ts h)[b]?=ns:=alj (by rw[vu];exact a)
theorem vG{c:Nat}(a:h.size<=b)(e:ff ts h b=an c):c∈ts/\b<h.size+ts.length:=by rw[zG a] at e;have:=(ia.1 e).1;exact⟨oS e,aa⟩
theorem sA{c:Nat}(a:b<h.size)(e:ff ts h b=an c):c=b/\(rowsOf h b).isSome=AT:=by rw[Eo a] at e;exact⟨(En e).1,by rw[e];rfl⟩
theorem vL(b c:Nat)(e:ff ts h b=an c):(qu ts h G).ro b\/(qu ts h G).tok b:=by
 rcases dg b h.size with hb|hb
 ·by_cases a:b=G
  ·exact .inr (.inl a)
  ·exact .inl ⟨hb,(sA hb e).2,a⟩
 ·exact .inr (.inr ⟨hb,(vG hb e).2⟩)
theorem ae2(hG:∃cs t,h[G]?=an (.cells cs t (0,0))/\0<cs.size)(j:∀b,ag.cl b<->(qu ts h G).tok b)(p:ts.Nodup)(o:∀b,b∈ts->G<b/\∃cs t,h[b]?=an (.cells cs t (0,0))/\0<cs.size):HR (qu ts h G) (ff ts h) (startHeap gc G ts h) h:=by
 obtain⟨q,A,m,r⟩:=hG;have B:=(bE.1 m).1;refine⟨λb c d hb hc=>?_,λb c hb=>?_,λb hb=>?_,λb c hb=>?_,by rw[vu];show G<=_/\G<=_;omega,λb hb=>⟨?_,λ_ _=>(j b).1 hb⟩⟩
 ·rcases dg b h.size with a|a<;>rcases dg c h.size with g|g
  ·have h1:=(sA a hb).1;have k:=(sA g hc).1;exact .inl aa
  ·have h1:=(sA a hb).1;have k:=(o _ (vG g hc).1).1;refine .inr ⟨vL _ _ hb,vL _ _ hc,λn=>?_,by show G<=_;omega⟩;rcases(j b).1 n.1 with l|l
   ·omega
   ·omega
  ·have h1:=(sA g hc).1;have k:=(o _ (vG a hb).1).1;refine .inr ⟨vL _ _ hb,vL _ _ hc,λn=>?_,by show G<=_;omega⟩;rcases(j c).1 n.2 with l|l
   ·omega
   ·omega
  ·rw[zG a] at hb;rw[zG g] at hc;obtain⟨h1,k⟩:=ia.1 hb;obtain⟨l,s⟩:=ia.1 hc;have:=(List.getElem_inj p).1 (k.trans s.symm);exact .inl aa
 ·rcases dg b h.size with a|a
  ·rw[Eo a] at hb;obtain⟨rfl,cs,t,f,h1⟩:=En hb;refine⟨nL gc ts h (c==G) (.cells cs t f),_,by rw[Ei gc a,h1];rfl,h1,?_⟩;by_cases e:c=G
   ·subst e;rw[m] at h1;cases h1;have u:nL gc ts h (c==c) (.cells q A (0,0))=.stringIter default 0:=by simp[nL]
    rw[u];exact .token _ _ _ _ (.inl rfl) r λ_=>rfl
   ·have C:(c==G)=Bz:=by simpa using e
    have u:nL gc ts h (c==G) (.cells cs t f)=.cells (cs.map (tQ gc (ff ts h) (mv h.size ts))) t (0,(cs.map (tQ gc (ff ts h) (mv h.size ts))).size):=by simp[nL,C]
    rw[u];have w:¬(qu ts h G).tok c:=λx=>x.elim e λy=>by omega
    exact .shut t ⟨a,by rw[hb];rfl,e⟩ w ⟨aj,λi x y z D=>by rw[ald,D] at z;cases z;exact af0 gc _ _ _⟩
  ·obtain⟨h1,k⟩:=vG a hb;obtain⟨_,cs,t,l,s⟩:=o c h1;exact⟨_,_,Ej gc a k,l,.token _ _ _ _ (.inr ⟨a,k⟩) s λ_=>rfl⟩
 ·rw[vu];rcases hb with hb|hb|hb
  ·have:=hb.1;omega
  ·omega
  ·omega
 ·show b<G<->c<G;rcases dg b h.size with a|a
  ·rw[(sA a hb).1]
  ·have:=(o _ (vG a hb).1).1;omega
 ·rw[vu];rcases(j b).1 hb with h|h<;>omega
theorem zK{w wg:AS}(hw:w.heap=h)(d:wg.heap=startHeap gc G ts h){a:ajF}{v:so}(hc:w.cell? a=an v)(k:a.block≠G)(i:VR (ff ts h) (mv h.size ts v) v):wg.cell? a=an (mv h.size ts v):=by
 unfold World.cell? at hc⊢;rw[hw] at hc;rw[d];cases c:h[a.block]? with
 |none=>rw[c] at hc;cases hc
 |some o=>
  rw[c] at hc;have e:=(bE.1 c).1;cases o with
  |cells l t f=>
   have j:(a.block==G)=Bz:=eY;rw[Ei gc e,c];simp only[akK,nL,j] at hc⊢;cases g:a.spot with
   |some s=>rw[g] at hc;simp at hc
   |none=>rw[g] at hc;simp only[Option.isSome_none,Bool.false_eq_true,if_false] at hc⊢;rw[ald,hc];simp[abw gc i]
  |_=>simp at hc
end
theorem aao[ag](gc:∀v,ag.jk v)(G:Nat)(ts:List Nat)(h:Array Obj):ki (λ_=>Bz) (startHeap gc G ts h)=startHeap gc G ts h:=by
 apply zo;intro b;rw[vF];rcases dg b h.size with hb|hb
 ·rw[Ei gc hb];cases h[b]? with
  |none=>rfl
  |some o=>cases o with|cells d t f=>cases c:(b==G)<;>simp[nL,iE]|_=>rfl
 ·rcases dg b (h.size+ts.length) with a|a
  ·rw[Ej gc hb a];rfl
  ·rw[XZ gc a];rfl
end Go.Proofs.Q0.aL
namespace Go.Proofs.Q0.Open
section
open Go.Conc Go.ConcN aL
variable[aC]
def Bh(W:AS)(v:so)(a:AS):Prop:=v=.bool AT/\jl W a/\W.heap.size<=a.heap.size/\∀c,c<W.heap.size->a.heap[c]?=W.heap[c]?
def adk(E:Env){m:ag}(s:ag.kP aC.toag m)(u:∀g,m.gl g->aC.toag.gl g)(w:∀f,aC.toag.ok f->m.ok f)(y:wU)(l:∀v,aC.toag.jk v)(P:@dA aC.toag Gz.prog)(hC:@ee aC.toag Gz.prog)(hF:∀K:aH,K.G=Gz.prog.globals.size->@dY aC.toag Gz.prog K)
  (Q:@dA (ag.exact m Gz.prog.funcs) Gz.prog)(R:@ee (ag.exact m Gz.prog.funcs) Gz.prog)(S:@cO (ag.exact m Gz.prog.funcs) Gz.prog)(V:∀K:aH,K.G=Gz.prog.globals.size->@dY (ag.exact m Gz.prog.funcs) Gz.prog K)
  {W:AS}{ts:List Nat}(hG:∃cs t,W.heap[Gz.prog.globals.size]?=an (.cells cs t (0,0))/\0<cs.size)(z:∀b,aC.toag.cl b<->(qu ts W.heap Gz.prog.globals.size).tok b)(X:ts.Nodup)(ht:∀b,b∈ts->Gz.prog.globals.size<b/\∃cs t,W.heap[b]?=an (.cells cs t (0,0))/\0<cs.size)
  (Z:∀g,aC.toag.gl g->ff ts W.heap g=an g){f:FuncId}{fn:Func}(ST:Gz.prog.funcs[f]?=an fn)(A:∀r∈fn.results,∃t,r=.tmp t)(B:Gz.prog.inits.idxOf? f=ns)(C:aC.toag.ok f){args a:Array so}(i:@aw aC.toag (ff ts W.heap) a args)
  (D:∀wg:AS,wg.heap=@aL.startHeap aC.toag l Gz.prog.globals.size ts W.heap->aiK Gz.prog f a wg λ|be v,_=>v=.bool AT|_,_=>False):
  ∃M last o w' N,runNT Tryz.prog (M+1) (solo (G (ajC Tryz.prog f args .normal) []) W) #[]=(.ended o w',N)/\runN Tryz.prog M (solo (G (ajC Tryz.prog f args .normal) []) W)=.next last/\
   Go.step Tryz.prog last=.ended o w'/\Conc.Good Tryz.prog (Bh W) last o w' N:=by
 let K:=qu ts W.heap Gz.prog.globals.size
 have F:∀b,aC.toag.cl b<->K.tok b:=z
 let wg:AS:={W with heap:=@aL.startHeap aC.toag l Gz.prog.globals.size ts W.heap}
 have hH:@HR aC.toag K (ff ts W.heap) wg.heap W.heap:=@ae2 aC.toag ts W.heap Gz.prog.globals.size l hG z X ht;have xR:∀b c,ff ts W.heap b=an c->K.ro b\/K.tok b:=@vL aC.toag ts W.heap Gz.prog.globals.size;have hv:@gE aC.toag (ff ts W.heap):=Z;have j:=HR.Sy (hG:=wg.heap) (λ_=>Bz) Gz.prog.funcs s hH (av _) λb _=>rfl;rw[show ki (λ_=>Bz) wg.heap=wg.heap from@aao aC.toag l Gz.prog.globals.size ts W.heap] at j
 have k:bG Gz.prog (jw Gz.prog λv _=>v=.bool AT) (G (ajC Gz.prog f a .normal) [c0 Gz.prog]) wg:=
  @MX (ag.exact m Gz.prog.funcs) Gz.prog _ Q R S rfl (V _ rfl) (λ_ _ x=>x) f fn ST A B (w f C) a a wg _ _ (aw.id (aw.inst s i)) j (λg hg=>Ren.zX (hv g (u g hg))) _ λT _=>(D (wg.on T wg.drawn) rfl).mono λe w' he=>by cases e<;>exact he
 have d9:@eX aC.toag Gz.prog (ff ts W.heap) (ajC Gz.prog f a .normal) (ajC Tryz.prog f args .normal):=by have h:=@wA aC.toag Gz.prog (ff ts W.heap) P f C a args i;rwa[aC.two] at h
 have hD:@dK aC.toag Gz.prog K [] (ff ts W.heap) (G (ajC Gz.prog f a .normal) [c0 Gz.prog]) wg (G (ajC Tryz.prog f args .normal) []) W:=
  ⟨_,_,[],[],rfl,rfl,d9,@iM.nil aC.toag _ _,hH,hv,rfl⟩
 obtain⟨N1,uC,a1,w1,H,t1,q1,ψ,g1,I,Sh1,r1,e1,f1,Jh,J,Cs,p⟩:=ag9 E y (K:=K) rfl (λb=>(E.le.cl b).trans (F b)) P hC (hF K rfl) (x:=(G (ajC Gz.prog f a .normal) [c0 Gz.prog],wg)) (aem k.acc)
  #[G (ajC Tryz.prog f args .normal) []] (G (ajC Tryz.prog f args .normal) []) W ns #[] (λ_=>0) (ff ts W.heap) (λ_=>False) k hD ae1 rfl (λ_ _ _ _ _ x=>x)
 have rt:jw Gz.prog (λv _=>v=.bool AT) g1 I.heap:=by cases Jh with|lv _ h=>exact h|step h _ _=>exact absurd J h
 obtain⟨χ,v,v',hR,_,Jr,L,n⟩:=@afZ aC.toag Gz.prog K P ψ g1 I a1 w1 _ Cs J rt;subst hR
 have pF:v'=.bool AT:=by cases Jr;rfl
 subst pF;rw[aC.two] at n;have q:∀c,c<W.heap.size->w1.heap[c]?=W.heap[c]?:=λc hc=>p.apart c hc λb hb=>xR b c hb;obtain⟨N2,last,o,w',N,x1,x2,x3,x4⟩:=Zi (Post:=Bh W) (sl:=H) (t:=t1) e1 f1 L λd=>⟨_,n d,rfl,p.io,p.size,q⟩;have hc:(solo (G (ajC Tryz.prog f args .normal) []) W)=crowd #[G (ajC Tryz.prog f args .normal) []] W ns:=rfl;refine⟨N1+N2,last,o,w',N,?_,?_,x3,x4⟩
 ·rw[hc,Nat.add_assoc,runNT_add,r1];exact x1
 ·rw[hc,runN_add];have h1:runN Tryz.prog N1 (crowd #[G (ajC Tryz.prog f args .normal) []] W ns)=.next (crowd uC w1 H):=by rw[<-runNT_fst _ _ _ #[],r1]
  rw[h1];exact x2
end
end Go.Proofs.Q0.Open
