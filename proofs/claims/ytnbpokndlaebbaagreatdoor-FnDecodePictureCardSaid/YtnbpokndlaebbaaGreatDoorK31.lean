import Derived.Test.YtnbpokndlaebbaaGreatDoorK30
set_option maxRecDepth 100000
set_option maxHeartbeats 8000000
set_option linter.all false
open Go.Value renaming int->U,slice->Y,bool->ci,agg->bi,pointer->d9,tuple->em,iface->gc
open Go.IntKind renaming i64->O
open Go.Obj renaming cells->ap
open Go.Ending renaming returned->dl
open Array renaming getElem?_eq_getElem->aik,getElem?_eq_none->ajT,getElem?_map->ajN
open Bool renaming false->Ba,true->AT
open Go renaming Addr->aic,Calls->ahR,Goroutine->BE,Program->OF,Trace->aiX,TypeId->SL,Value->AS,World->rl,bodyPost_ret->ahX,stepG->aiq
open Go.ConcN renaming upd->TO
open Go.World renaming cell?->aiu,size_alloc->NO
open List renaming getElem?_eq_getElem->ajR,take_of_length_le->ajv
open Option renaming map_some->ajc,none->ns,some->an
namespace Go.Proofs
def yx{p:Prop}(h:p:=by rw[Hn.out];omega):p:=h
def yK{p:Prop}(h:p:=by rw[VT.out];omega):p:=h
def L5{p:Prop}(h:p:=by clear he hW hH;go_enter Gz.gf func7,ntmps7;go_wp2;refine(ab4 c c' HX.out HY.out hn.out xX.out lx ly).mono ?_;rw[HE.out];rintro e w'⟨rfl,k,rfl⟩;go_wp2;go_ret;exact⟨by rw[xY.out];rfl,q0.drewN _⟩):p:=h
def Lm{p:Prop}(h:p:=by go_enter Gz.gf func7,ntmps7;go_wp2;go_ret;exact⟨by rw[xY.out];rfl,q0⟩):p:=h
end Go.Proofs
namespace Go.Proofs.Q0
open Go.Proofs.Tryz
variable{A:Option aic}{w:rl}{g n:Nat}{xs:List Int}
section
open Go.RowKit Go.WideShapes Go.ChangeShapes
def kD.aq{S:List Nat}{a:Nat}{w':rl}{ls:List (List Int)}(h:kD a w A ls)(k:al S w w')(b:∀x,x∈S->x<a):kD a w' A ls:=
 λT c d e=>h (S++T) c (λx f=>(uW.1 f).elim (b x) (d x)) ((k.more λ_ h=>uW.2 (.inl h)).trans (e.more λ_ h=>uW.2 (.inr h)))
def kD.mono{b a:Nat}{w:rl}{A:Option aic}{ls:List (List Int)}(h:kD b w A ls)(c:a<=b):kD a w A ls:=λS d hS=>h S d (λx e=>cC (hS x e) c)
def kD.rd{a:Nat}{ls:List (List Int)}(h:kD a w A ls):eF w w.heap.size A ls:=h [] w (λ_ h=>by cases h) (al.refl _ _)
def Re{s:Int}(h:s=8\/s=16\/s=24):∃k:Nat,s=8*(k:Int)/\1<=k/\k<=3:=⟨(s/8).toNat,aa,aa,aa⟩
def L9{P:OF}{t:SL}{cs cs':Array AS}{c:Array Oper}{o:Oper}{a:Act}{K:Act->rl->Prop}{d:Exit->Act->rl->Prop}{E:Prop}(IV:o.guard=ns){ty:SL}{x y:Operand}(e:o.op=.store ty x y)(f:a.eval x=d9 (an ⟨g,0,ns⟩)){v:AS}(i:a.eval y=v)(j:v=bi cs')(h:ak w g t cs)(k:cs'.size=cs.size)(b:(cs'.all λx=>x.oneCell')=AT)
  (hi:(P.info? ty).map (·.size)=an cs'.size)
  (hK:∀w',ak w' g t cs'->w.grownBy w' (an g)->w'.heap.size=w.heap.size->K (a.put o.dst undef) w'):if Region.wanted o (yielded c a.tmps)=AT then Oper.wp P o a w K d else E:=by
 subst j;have l:=run_storeVar_row (P:=P) w g t ty cs cs' h hi k.symm b;rw[if_pos CO];unfold Oper.wp execOp;simp only[e,f,i,Instr.storeAt,Instr.sureAddr,l,Sem.run_bind,Sem.run_pure,Result.andThen_ok];refine hK _ ?_ ?_ ?_
 ·unfold ak at h⊢;simp[World.setRow,Array.getElem?_modify,h]
 ·exact C8
 ·simp
def C0{P:OF}{fn:Func}{p q:Tmp}{ty a:SL}(h:fn.results=#[.cell p ty,.cell q a]){tmps:Array AS}{g':Nat}{t k:SL}{cs cs':Array AS}{d b:TypeDesc}
  (l:tmps.getD p undef=d9 (an ⟨g,0,ns⟩))(m:ak w g t cs)(hq:tmps.getD q undef=d9 (an ⟨g',0,ns⟩))(c:ak w g' k cs')
  (hu:P.underlying ty=an d)(hd:(match d with|.struct _|.array _ _=>AT|_=>Ba)=AT)(hi:(P.info? ty).map (·.size)=an cs.size)
  (e:P.underlying a=an b)(f:(match b with|.struct _|.array _ _=>AT|_=>Ba)=AT)(hi':(P.info? a).map (·.size)=an cs'.size):
  (results fn tmps).run P w=.ok (em #[bi cs,bi cs']) w:=by
 have i:tmps[p]?.getD undef=d9 (an ⟨g,0,ns⟩):=by simpa using l
 have j:tmps[q]?.getD undef=d9 (an ⟨g',0,ns⟩):=by simpa using hq
 simp[results,h,i,j,asAddr,run_loadVar_row w g t ty cs _ d m hu hd hi,run_loadVar_row w g' k a cs' _ b c e f hi',Sem.run_bind,Result.andThen]
def adH{P:Nat}{N:Int}(h:aO w g P)(hP:P<=500000)(hN:1<=N/\N<=1000):
  ahR Gz.prog 12 #[d9 (an ⟨g,0,ns⟩),U O N] w λe w'=>∃(C D q:Int)(E:Bool)(A:Option aic)(c:Nat)(ls:List (List Int))(RW M:Int)(A2:Option aic)(m c2:Nat)(xs:List Int),e=dl (em #[bi #[U O C,U O D,ci E,U O q,Y A ls.length c],bi #[U O RW,U O M,Y A2 m c2]])/\
   kD w.heap.size w' A ls/\ls.length<=3/\(∀i,i<ls.length->bytes (aS ls i))/\dv w' w.heap.size w'.heap.size A2 xs/\xs.length=m/\m<=1024/\aO w' g (P+9100)/\al [g] w w':=by
 have hl:=h.lt;have b:=(ak.new w 25 #[U O 0,U O 0,ci Ba,U O 0,Y ns 0 0]).alloc (ap #[U O 0,U O 0,Y ns 0 0] 28);have a:=ak.new (w.alloc (ap #[U O 0,U O 0,ci Ba,U O 0,Y ns 0 0] 25)) 28 #[U O 0,U O 0,Y ns 0 0];go_enter Gz.gf func12,ntmps12;go_wp2;refine(Qa (h.q (((Q.refl w).alloc _).alloc _)) aa).mono ?_;rintro e w1⟨s,rfl,R,r1,k1⟩;obtain⟨wn,rfl,Pi,w3'⟩:=Re R;have l:al [g] w w1:=(al.dp _ (((Q.refl w).alloc _).alloc _)).trans k1;replace b:=b.aq k1 av;replace a:=a.aq k1 av;clear k1 R;go_wp2;refine(Qa r1 aa).mono ?_;rintro e w2⟨s,rfl,R,r2,k2⟩;obtain⟨G,rfl,h1',h3'⟩:=Re R;replace l:=l.trans k2;replace b:=b.aq k2 av;replace a:=a.aq k2 av;clear k2 R r1;go_wp2;refine(Si (8*wn) (8*G) r2 aa aa aa aa aa aa).mono ?_;rintro e w3⟨v3,xs,rfl,o3,r3,S⟩;obtain⟨T,V,rfl⟩:=o3.form;have s2:=a.lt;replace l:=l.trans S;replace b:=b.aq S av;replace a:=a.aq S av;have Cn:8*G*(8*wn)<=24*24:=eZ aa aa;have B:=o3.i.Cw;have l4:=o3.1;have s1:=S.size;clear S r2 o3;generalize 8*G*(8*wn)=m at Cn B l4⊢;go_wp2;have r:Q w3 (w3.alloc (ap #[U O (8*(wn:Int)),U O (8*(G:Int)),Y T m V] 28)):=(Q.refl _).alloc _;have d:=ak.new w3 28 #[U O (8*(wn:Int)),U O (8*(G:Int)),Y T m V];have hz:(w.alloc (ap #[U O 0,U O 0,ci Ba,U O 0,Y ns 0 0] 25)).heap.size=w.heap.size+1:=au;rw[hz] at a s2;refine(dY 3 (r3.q r) aa aa aa).mono ?_;rintro e w4⟨x,rfl,_,r4,K⟩;have s3:=a.lt;replace l:=(l.q r).trans K;replace b:=(b.q r).aq K av;replace a:=(a.q r).aq K av;replace d:=d.aq K av;replace B:=(B.aq (al.dp [g] r) (ay _) av).aq K (by have:=r.size;omega) av;clear K r r3 hz;go_wp2;refine(ab3 g _ wn G _ _ N _ _ r4 aa rfl rfl Pi w3' h1' h3' hN).mono ?_;rintro e W⟨C,D,q,E,A,c,ls,rfl,F,X,Z,r5,L⟩;replace l:=l.trans L;have s5:=d.lt;replace b:=b.aq L av;replace a:=a.aq L av;replace d:=d.aq L av;replace B:=B.aq L aa av;have s6:=d.lt;clear L r4;generalize 8*(wn:Int)=RW at d⊢;generalize 8*(G:Int)=M at d⊢;go_wp2;have r:Q W (W.alloc (ap #[U O C,U O D,ci E,U O q,Y A ls.length c] 25)):=(Q.refl _).alloc _;have p:=ak.new W 25 #[U O C,U O D,ci E,U O q,Y A ls.length c];refine(TW (r5.q r) aa hN.1 aa).mono ?_;rintro e w6⟨t,rfl,r6,z⟩;replace p:=p.aq z av;replace z:=(al.dp [g] r).trans z;replace l:=l.trans z;replace b:=b.aq z av;replace a:=a.aq z av;replace d:=d.aq z av;replace B:=B.aq z aa av;replace F:=F.aq z av;have s7:=p.lt;clear r5 r z;cases t
 ·go_wp2;have y:=(Q.refl w6).drew;replace b:=b.q y;replace a:=a.q y;have ll:=s7;refine eo (λww=>(∀i,ww.cell? ⟨W.heap.size,i,ns⟩=(#[U O C,U O D,ci E,U O q,Y A ls.length c]:Array AS)[i]?)/\(∀i,ww.cell? ⟨w3.heap.size,i,ns⟩=(#[U O RW,U O M,Y T m V]:Array AS)[i]?)) (λj=>decide (3<=j)) aj ⟨(p.q y).cell,(d.q y).cell⟩ λhS=>?_;refine ai 0 (h:=ai 1 (h:=?_));refine bw (k:=2) aj rfl rfl λK2 u=>?_;refine L9 rfl rfl rfl rfl rfl b rfl fq aj ?_;intro w8 H o s8;refine u.out _ _ ⟨((p.q y).grown o λe=>by have:=aH e;omega).cell,((d.q y).grown o λe=>by have:=aH e;omega).cell⟩ λhS=>?_;clear u K2;refine bh ?_;refine gi [3] 3 aj aw rfl ?_;refine eH (cs':=#[U O RW,U O M,Y T m V]) rfl _ _ _ rfl rfl _ rfl rfl (a.grown o λe=>by have:=aH e;omega) rfl fq aj ?_;intro w9 b9 v s9;replace H:=H.grown v (λe=>by have:=aH e;omega);go_wp2;refine ahX (C0 aC aC H aC b9 (Gz.gu underlying25) rfl aj (Gz.gu underlying28) rfl aj) rfl ?_;have sy:=y.size;have I:=((F.aq (al.dp [] y) au).aq (al.bA o) av).aq (al.bA v) av;have o9:=(((B.aq (al.dp [] y) aa au).aq (al.bA o) aa av).aq (al.bA v) aa av);exact⟨C,D,q,E,A,c,ls,RW,M,T,m,V,xs,rfl,I.mono aa,X,Z,o9.mono aa aa,l4,aa,(((r6.q y).aq (al.bA o) av).aq (al.bA v) av).more aa,((l.q y).grown o (.inr (ay _))).grown v (.inr aa)⟩
 ·go_wp2;refine(Zn r6 aa aa aa).mono ?_;rintro e w7⟨⟨RX,RY,A7,m7,c7,ys,rfl,o7,l7,hm7⟩,r7,J⟩;replace l:=l.trans J;replace b:=b.aq J av;replace a:=a.aq J av;replace d:=d.aq J av;replace p:=p.aq J av;replace F:=F.aq J av;have s9:=p.lt;clear B J r6;go_wp2_with(refine eH (cs':=#[U O RX,U O RY,Y A7 m7 c7]) rfl _ _ _ rfl rfl _ rfl rfl d rfl fq aj ?_;intro w10 VU f s10);replace d:=VU;replace b:=b.grown f (λe=>by have:=aH e;omega);replace a:=a.grown f (λe=>by have:=aH e;omega);replace p:=p.grown f (λe=>by have:=aH e;omega);replace l:=l.grown f (.inr aa);replace F:=F.aq (al.bA f) av;replace o7:=o7.aq (al.bA f) (ay _) av;replace r7:=r7.aq (al.bA f) av;clear VU f;have y:=(Q.refl w10).drew;replace b:=b.q y;replace a:=a.q y;have ll:=s10;refine eo (λww=>(∀i,ww.cell? ⟨W.heap.size,i,ns⟩=(#[U O C,U O D,ci E,U O q,Y A ls.length c]:Array AS)[i]?)/\(∀i,ww.cell? ⟨w3.heap.size,i,ns⟩=(#[U O RX,U O RY,Y A7 m7 c7]:Array AS)[i]?)) (λj=>decide (3<=j)) aj ⟨(p.q y).cell,(d.q y).cell⟩ λhS=>?_;refine ai 0 (h:=ai 1 (h:=?_));refine bw (k:=2) aj rfl rfl λK2 u=>?_;refine L9 rfl rfl rfl rfl rfl b rfl fq aj ?_;intro w8 H o s8;refine u.out _ _ ⟨((p.q y).grown o λe=>by have:=aH e;omega).cell,((d.q y).grown o λe=>by have:=aH e;omega).cell⟩ λhS=>?_;clear u K2;refine bh ?_;refine gi [3] 3 aj aw rfl ?_;refine eH (cs':=#[U O RX,U O RY,Y A7 m7 c7]) rfl _ _ _ rfl rfl _ rfl rfl (a.grown o λe=>by have:=aH e;omega) rfl fq aj ?_;intro w9 b9 v s9;replace H:=H.grown v (λe=>by have:=aH e;omega);go_wp2;refine ahX (C0 aC aC H aC b9 (Gz.gu underlying25) rfl aj (Gz.gu underlying28) rfl aj) rfl ?_;have sy:=y.size;have I:=((F.aq (al.dp [] y) au).aq (al.bA o) av).aq (al.bA v) av;have o9:=(((o7.aq (al.dp [] y) aa au).aq (al.bA o) aa av).aq (al.bA v) aa av);exact⟨C,D,q,E,A,c,ls,RX,RY,A7,m7,c7,ys,rfl,I.mono aa,X,Z,o9.mono aa aa,l7,aa,(((r7.q y).aq (al.bA o) av).aq (al.bA v) av).more aa,((l.q y).grown o (.inr (ay _))).grown v (.inr aa)⟩
end
section
open Go.RowKit Go.WideShapes Go.ChangeShapes
def aeC{c:Nat}(x:bC w w.heap.size A xs)(y:xs.length=n)(z:pk xs)(hm:n<=maxLen)(hc:n<=c):
  ahR Gz.prog 4 #[Y A n c] w λe w'=>∃(h j q:Int)(l:Bool)(A:Option aic)(c:Nat)(ls:List (List Int))(RW o:Int)(d:Option aic)(m p:Nat)(xs:List Int),e=dl (em #[bi #[U O h,U O j,ci l,U O q,Y A ls.length c],bi #[U O RW,U O o,Y d m p]])/\
   eF w' w'.heap.size A ls/\ls.length<=3/\(∀i,i<ls.length->bytes (aS ls i))/\Rd w' w'.heap.size d xs/\xs.length=m/\m<=1024/\Q w w':=by
 have b:=(ak.new w 25 #[U O 0,U O 0,ci Ba,U O 0,Y ns 0 0]).alloc (ap #[U O 0,U O 0,Y ns 0 0] 28);have a:=ak.new (w.alloc (ap #[U O 0,U O 0,ci Ba,U O 0,Y ns 0 0] 25)) 28 #[U O 0,U O 0,Y ns 0 0];rw[NO] at a;have r:Q w ((w.alloc (ap #[U O 0,U O 0,ci Ba,U O 0,Y ns 0 0] 25)).alloc (ap #[U O 0,U O 0,Y ns 0 0] 28)):=((Q.refl w).alloc _).alloc _;go_enter Gz.gf func4,ntmps4;go_wp2;generalize(w.alloc (ap #[U O 0,U O 0,ci Ba,U O 0,Y ns 0 0] 25)).alloc (ap #[U O 0,U O 0,Y ns 0 0] 28)=B at b a r⊢;have R:=a.lt;refine(adG A B ((x.q r (ay _)).more r.size) y z hm hc).mono ?_;rintro e S⟨rfl,C,q1⟩;replace b:=b.q q1;replace a:=a.q q1;have s1:=q1.size;go_wp2;refine(adH C aa aa).mono ?_;rintro e v⟨h,j,q,l,A,c,ls,RW,o,d,m,p,D,rfl,h1,E,F,G,H,I,_,t⟩;have hq:Q w v:=(t.toQ q1 au)|>r.trans;replace b:=b.aq t av;replace a:=a.aq t av;have s2:=a.lt;have J:∀{u:rl},v.grownBy u (an w.heap.size)->ak u (w.heap.size+1) 28 #[U O 0,U O 0,Y ns 0 0]:=λf=>a.grown f (λe=>by have:=aH e;omega);go_wp2_with(first|(refine eH (cs':=#[U O h,U O j,ci l,U O q,Y A ls.length c]) rfl _ _ _ rfl rfl _ rfl rfl b rfl fq aj ?_;intro u K f T)|(refine eH (cs':=#[U O RW,U O o,Y d m p]) rfl _ _ _ rfl rfl _ rfl rfl (J aE) rfl fq aj ?_;intro V L s W));have M:=K.grown s (λe=>by have:=aH e;omega);refine ahX (C0 aC aC M aC L (Gz.gu underlying25) rfl aj (Gz.gu underlying28) rfl aj) rfl ?_;have N:=((h1.aq (al.bA f) av).aq (al.bA s) av).rd;have P:=((G.aq (al.bA f) (ay _) av).aq (al.bA s) aa av).rd;exact⟨h,j,q,l,A,c,ls,RW,o,d,m,p,D,rfl,N,E,F,Rd.more P aa,H,I,(hq.grown f λk e=>by have:=aH e;omega).grown s λk e=>by have:=aH e;omega⟩
end
section
open Go.RowKit
def ab4{s:Option aic}{j:Nat}(c x:Nat){B B':Nat}{a:List Int}(t:Rd w B A xs)(u:Rd w B' s a)(m:xs.length=n)(f:a.length=j)(y:n<=maxLen)(z:j<=maxLen):
  ahR Gz.prog 18 #[Y A n c,Y s j x] w λe w'=>e=dl (ci (xs==a))/\∃k,w'=w.drewN k:=by
 unfold maxLen at y z;have Hn:=ag m;have VT:=ag f;by_cases p:n=j
 ·subst p;clear m f;go_enter Gz.gf func18,ntmps18;go_wp2;go_loopw[5] (λi wr=>∃k:Nat,k<=n/\i=U O k/\(∃d,wr=w.drewN d)/\Hid (xs.take k=a.take k)) (λi _=>n-(intOf i).toNat)
  case atStart=>exact⟨0,ez _,rfl,⟨0,rfl⟩,by simp[Hid]⟩
  case round=>
   obtain⟨k,F,rfl,⟨d,rfl⟩,v⟩:=hrel;by_cases C:k<n
   ·obtain⟨b,o,rfl,_,hc⟩:=t yx;obtain⟨G,H,rfl,_,l⟩:=u yK;have h1:=hc k yx;have I:=l k yK;clear hc l t u;by_cases he:xs[k]?.getD 0=a[k]?.getD 0
    ·have q:((xs[k]?.getD 0) !=(a[k]?.getD 0))=Ba:=by simp[he]
     have r:=ag he;clear he;go_wp2
     go_quiet(fail)
     go_wp2;go_roundw;case rel=>exact⟨k+1,aa,aJ,⟨_,by first|rfl|exact World.drewN_drewN _ _ _⟩,Xj yx yK v.out r.out⟩
     case measure=>exact bj
    ·have q:((xs[k]?.getD 0) !=(a[k]?.getD 0))=AT:=by simp[he]
     have r:=ag he;clear he;go_wp2
     go_quiet(fail)
     go_wp2;go_ret;refine⟨?_,⟨_,by first|rfl|exact World.drewN_drewN _ _ _⟩⟩
     have:(xs==a)=Ba:=by rw[beq_eq_false_iff_ne];intro e;exact r.out om
     rw[this];rfl
   ·go_wp2;go_ret
    have:(xs==a)=AT:=by rw[beq_iff_eq];have h:=v.out;have:k=n:=aa;rw[ajv yx,ajv yK] at h;exact h
    exact⟨by rw[this];rfl,_,rfl⟩
 ·have D:((n:Int) !=(j:Int))=AT:=by rw[bne_iff_ne];omega
  have E:=ag p;clear p m f;go_enter Gz.gf func18,ntmps18;go_wp2;go_ret
  have:(xs==a)=Ba:=by rw[beq_eq_false_iff_ne];intro e;exact E.out (by rw[<-Hn.out,<-VT.out,e])
  exact⟨by rw[this];rfl,0,rfl⟩
end
section
open Go.RowKit
def DZ(W H a b:Int)(A j:Option aic)(n d c c' B B':Nat)(xs f:List Int)(t:Bool)(o:Rd w B A xs)(r:B<=w.heap.size)(p:Rd w B' j f)(k:B'<=w.heap.size)(hn:Hid (xs.length=n))(xX:Hid (f.length=d))(lx:n<=maxLen)(ly:d<=maxLen)
  (i:Hid (decide (W=a/\H=b/\xs=f)=t)):
  ahR Gz.prog 7 #[bi #[U O W,U O H,Y A n c],bi #[U O a,U O b,Y j d c']] w λe w'=>e=dl (ci t)/\Q w w':=by
 have q0:Q w ((w.alloc (ap #[U O W,U O H,Y A n c] 28)).alloc (ap #[U O a,U O b,Y j d c'] 28)):=aU;have HX:=ag (o.q q0 r);have HY:=ag (p.q q0 k);clear o p;by_cases hW:W=a
 ·have l:(W==a)=AT:=by rw[beq_iff_eq];exact hW
  by_cases hH:H=b
  ·have m:(H==b)=AT:=by rw[beq_iff_eq];exact hH
   cases he:(xs==f)
   ·have HE:=ag he;have xY:Hid (t=Ba):=by rw[Hid,<-i.out];exact decide_eq_false (λh=>by have:=h.2.2;rw[beq_eq_false_iff_ne] at he;exact he this)
    exact L5
   ·have HE:=ag he;have xY:Hid (t=AT):=by rw[Hid,<-i.out];exact decide_eq_true ⟨hW,hH,by rw[beq_iff_eq] at he;exact he⟩
    exact L5
  ·have m:(H==b)=Ba:=by rw[beq_eq_false_iff_ne];exact hH
   have xY:Hid (t=Ba):=by rw[Hid,<-i.out];exact decide_eq_false (λh=>hH h.2.1)
   clear hW hH;exact Lm
 ·have l:(W==a)=Ba:=by rw[beq_eq_false_iff_ne];exact hW
  have xY:Hid (t=Ba):=by rw[Hid,<-i.out];exact decide_eq_false (λh=>hW h.1)
  clear hW;exact Lm
end
section
open Go.RowKit Go.WideShapes Go.ChangeShapes
def TZ(w:rl):Prop:=∀(W H q:Int)(I:Bool)(f h:Option aic)(j m k:Nat)(ls:List (List Int))(RW l:Int)(o:List Int)(a:rl),Q w a->eF a a.heap.size f ls->ls.length<=3->(∀i,i<ls.length->bytes (aS ls i))->Rd a a.heap.size h o->o.length=m->m<=1024->
 ∃(t:Bool)(d:Nat)(b un:List Int),(t=AT->d<=1024/\bV W H b=AT/\b.length=d/\un.length=d)/\
  (∀z,Q a z->ahR Gz.prog 5 #[.agg #[U O W,U O H,.bool I,U O q,.slice f ls.length j],.agg #[U O RW,U O l,.slice h m k]] z λe w'=>Q z w'/\(t=AT->∃v,e=dl (.tuple #[.agg #[U O W,U O H,v],.bool AT])/\Own w' z.heap.size v d b)/\(t=Ba->e=dl (.tuple #[.agg #[U O 0,U O 0,.slice ns 0 0],.bool Ba])))/\
  (∀z,Q a z->ahR Gz.prog 6 #[.agg #[U O W,U O H,.bool I,U O q,.slice f ls.length j],.agg #[U O RW,U O l,.slice h m k]] z λe w'=>Q z w'/\(t=AT->∃v,e=dl (.tuple #[.agg #[U O W,U O H,v],.bool AT])/\Own w' z.heap.size v d b)/\(t=Ba->e=dl (.tuple #[.agg #[U O 0,U O 0,.slice ns 0 0],.bool Ba])))/\
  (∀z,Q a z->ahR Gz.prog 11 #[.agg #[U O W,U O H,.bool I,U O q,.slice f ls.length j],.agg #[U O RW,U O l,.slice h m k]] z λe w'=>Q z w'/\(t=AT->∃v,e=dl (.agg #[U O W,U O H,v])/\Own w' z.heap.size v d un))/\
  (∀z A c B,Q a z->t=AT->Rd z B A un->B<=z.heap.size->ahR Gz.prog 10 #[.agg #[U O W,U O H,.slice A d c],U O q] z λe w'=>∃v,e=dl (.agg #[U O W,U O H,v])/\Own w' z.heap.size v d b/\Q z w')
def VY{c:Nat}(hx:bC w w.heap.size A xs)(hn:xs.length=n)(hb:pk xs)(hm:n<=maxLen)(hc:n<=c)(hC:TZ w):
  ahR Gz.prog 3 #[.slice A n c] w λe w'=>e=dl (.bool AT):=by
 have py:n<=9223372036854775807:=hm;by_cases hl:1048576<n
 ·go_enter Gz.gf func3,ntmps3;go_wp2;go_ret;exact rfl
 ·go_enter Gz.gf func3,ntmps3;go_wp2;refine(aeC hx hn hb hm hc).mono ?_;rintro e x⟨W,H,q,I,G,J,K,RW,L,M,m,N,ys,rfl,h1,h2,h3,h4,h5,h6,q1⟩;obtain⟨t,d,S,un,hp,X,T,Z,HD⟩:=hC W H q I G M J m N K RW L ys x q1 h1 h2 h3 h4 h5 h6;replace X:=ag X;replace T:=ag T;replace Z:=ag Z;replace HD:=ag HD;clear h1 h2 h3 h4 h5 h6 hC hx hb;have b:=(ak.new x 25 #[U O W,U O H,.bool I,U O q,.slice G K.length J]).alloc (.cells #[U O RW,U O L,.slice M m N] 28);have a:=ak.new (x.alloc (.cells #[U O W,U O H,.bool I,U O q,.slice G K.length J] 25)) 28 #[U O RW,U O L,.slice M m N];rw[NO] at a;have l:Q x ((x.alloc (.cells #[U O W,U O H,.bool I,U O q,.slice G K.length J] 25)).alloc (.cells #[U O RW,U O L,.slice M m N] 28)):=((Q.refl x).alloc _).alloc _;go_wp2;refine(X.out _ l).mono ?_;rintro e w3⟨V,ht,hf⟩;replace b:=b.q V;replace a:=a.q V;replace l:=l.trans V;clear V;cases t
  ·obtain rfl:=hf rfl;have j:=ak.new w3 28 #[U O 0,U O 0,.slice ns 0 0];replace b:=b.q ((Q.refl w3).alloc (.cells #[U O 0,U O 0,.slice ns 0 0] 28));replace a:=a.q ((Q.refl w3).alloc (.cells #[U O 0,U O 0,.slice ns 0 0] 28));replace l:=l.trans ((Q.refl w3).alloc (.cells #[U O 0,U O 0,.slice ns 0 0] 28));have F:=b.cell;have cb:=a.cell;go_wp2;refine(T.out _ l).mono ?_;rintro e o⟨p,_,hf⟩;obtain rfl:=hf trivial;replace b:=b.q p;replace a:=a.q p;replace l:=l.trans p;replace j:=j.q p;clear F cb p;have D:=ak.new o 28 #[U O 0,U O 0,.slice ns 0 0];replace b:=b.q ((Q.refl o).alloc (.cells #[U O 0,U O 0,.slice ns 0 0] 28));replace a:=a.q ((Q.refl o).alloc (.cells #[U O 0,U O 0,.slice ns 0 0] 28));replace l:=l.trans ((Q.refl o).alloc (.cells #[U O 0,U O 0,.slice ns 0 0] 28));have F:=b.cell;have cb:=a.cell;replace j:=j.q ((Q.refl o).alloc (.cells #[U O 0,U O 0,.slice ns 0 0] 28));have cx:=j.cell;have cy:=D.cell;go_wp2;refine(DZ 0 0 0 0 ns ns 0 0 0 0 0 0 [] [] AT (λh=>absurd h au) (ez _) (λh=>absurd h au) (ez _) rfl rfl (ez _) (ez _) (by simp[Hid])).mono ?_;rintro e w5⟨rfl,s⟩;have cx:=(j.q s).cell;go_wp2;refine(alive _).mono ?_;rintro e w6⟨rfl,q6⟩;go_wp2;go_ret;exact rfl
  ·obtain⟨v,rfl,o3⟩:=ht rfl;obtain⟨z,u,rfl⟩:=o3.form;have j:=ak.new w3 28 #[U O W,U O H,.slice z d u];replace b:=b.q ((Q.refl w3).alloc (.cells #[U O W,U O H,.slice z d u] 28));replace a:=a.q ((Q.refl w3).alloc (.cells #[U O W,U O H,.slice z d u] 28));replace l:=l.trans ((Q.refl w3).alloc (.cells #[U O W,U O H,.slice z d u] 28));have F:=b.cell;have cb:=a.cell;go_wp2;refine(T.out _ l).mono ?_;rintro e o⟨p,ht4,_⟩;obtain⟨v4,rfl,o4⟩:=ht4 trivial;obtain⟨B,C,rfl⟩:=o4.form;replace b:=b.q p;replace a:=a.q p;replace l:=l.trans p;replace j:=j.q p;clear F cb;have D:=ak.new o 28 #[U O W,U O H,.slice B d C];replace b:=b.q ((Q.refl o).alloc (.cells #[U O W,U O H,.slice B d C] 28));replace a:=a.q ((Q.refl o).alloc (.cells #[U O W,U O H,.slice B d C] 28));replace l:=l.trans ((Q.refl o).alloc (.cells #[U O W,U O H,.slice B d C] 28));have F:=b.cell;have cb:=a.cell;replace j:=j.q ((Q.refl o).alloc (.cells #[U O W,U O H,.slice B d C] 28));have cx:=j.cell;have cy:=D.cell;obtain⟨hd,P,r,hul⟩:=hp trivial;have R:=((o3.q ((Q.refl w3).alloc (.cells #[U O W,U O H,.slice z d u] 28))).q p).q ((Q.refl o).alloc (.cells #[U O W,U O H,.slice B d C] 28));have o4':=o4.q ((Q.refl o).alloc (.cells #[U O W,U O H,.slice B d C] 28));go_wp2;refine(DZ W H W H z B d d u C _ _ S S AT R.rd (ay _) o4'.rd (ay _) r r mY mY (by simp[Hid])).mono ?_;rintro e w5⟨rfl,s⟩;have cx:=(j.q s).cell;have F:=(b.q s).cell;have cb:=(a.q s).cell;go_wp2;have hWW:(W==W)=AT:=au;have hHH:(H==H)=AT:=au;have o5:=R.q s;have z5:=l.trans s;have y:Q w5 w5.drew:=(Q.refl _).drew;replace j:=j.q s;replace b:=b.q s;replace a:=a.q s;refine eo (λww=>(∀i,ww.cell? ⟨w3.heap.size,i,ns⟩=(#[U O W,U O H,.slice z d u]:Array AS)[i]?)/\(∀i,ww.cell? ⟨x.heap.size,i,ns⟩=(#[U O W,U O H,.bool I,U O q,.slice G K.length J]:Array AS)[i]?)/\(∀i,ww.cell? ⟨x.heap.size+1,i,ns⟩=(#[U O RW,U O L,.slice M m N]:Array AS)[i]?)) (λ_=>Ba) aj ⟨(j.q y).cell,(b.q y).cell,(a.q y).cell⟩ λhS=>?_;refine ai 0 (h:=?_);refine bw (k:=1) aj rfl rfl λE f=>?_;go_simp;refine(ya u (o5.q y).rd (ay _) r aa P).mono ?_;rintro e w6⟨rfl,q6⟩;replace y:=y.trans q6;refine f.out _ _ ⟨(j.q y).cell,(b.q y).cell,(a.q y).cell⟩ λhS=>?_;clear f E;refine bh ?_;refine ai 2 (h:=ai 3 (h:=ai 4 (h:=ai 5 (h:=ai 6 (h:=ai 7 (h:=ai 8 (h:=ai 9 (h:=ai 10 (h:=ai 11 (h:=ai 12 (h:=ai 13 (h:=ai 14 (h:=ai 15 (h:=ai 16 (h:=ai 17 (h:=ai 18 (h:=ai 19 (h:=ai 21 (h:=ai 22 (h:=?_))))))))))))))))))));refine bw (k:=20) aj rfl rfl λE f=>?_;go_simp;refine(Z.out _ (z5.trans y)).mono ?_;rintro e w7⟨q7,hu⟩;obtain⟨v7,rfl,o7⟩:=hu trivial;obtain⟨A7,c7,rfl⟩:=o7.form;replace y:=y.trans q7;refine f.out _ _ ⟨(j.q y).cell,(b.q y).cell,(a.q y).cell⟩ λhS=>?_;clear f E;refine bh ?_;refine bw (k:=23) aj rfl rfl λE f=>?_;go_simp;refine(HD.out _ A7 c7 _ (z5.trans y) trivial o7.rd (ay _)).mono ?_;rintro e w8⟨v8,rfl,o8,q8⟩;obtain⟨A8,c8,rfl⟩:=o8.form;replace y:=y.trans q8;refine f.out _ _ ⟨(j.q y).cell,(b.q y).cell,(a.q y).cell⟩ λhS=>?_;clear f E;refine bh ?_;refine bw (k:=24) aj rfl rfl λE f=>?_;go_simp;refine(DZ W H W H z A8 d d u c8 _ _ S S AT (o5.q y).rd (ay _) o8.rd (ay _) r r mY mY (by simp[Hid])).mono ?_;rintro e w9⟨rfl,q9⟩;replace y:=y.trans q9;refine f.out _ _ ⟨(j.q y).cell,(b.q y).cell,(a.q y).cell⟩ λhS=>?_;clear f E;refine bh ?_;refine ai 25 (h:=ai 26 (h:=?_));refine kF aj ?_ _;go_wp2;go_ret;exact rfl
end
section
open Go.RowKit Go.WideShapes Go.ChangeShapes
def gQ.mono{w:rl}{a1 a2:aic}{B B':Nat}(h:gQ w a1 a2 B)(a:B<=B'):gQ w a1 a2 B':=⟨h.e1,h.e2,cC h.l1 a,cC h.l2 a⟩
def agS{C D:aic}(he:gQ w C D w.heap.size)(Z:dD w C)(k2:dD w D)(hT:Tb w):TZ w:=λW H q I G J K m L ls RW F f X t h1 h2 h3 M N h6=>by
 have E:∀z,Q X z->gQ z C D X.heap.size/\dD z C/\dD z D/\Tb z:=λz a=>⟨(he.q (t.trans a) (ay _)).mono t.size,Z.q (t.trans a),k2.q (t.trans a),hT.q (t.trans a)⟩
 refine⟨fi W H I q ls RW F f,W.toNat*H.toNat,qW W H I q ls f,jM W H I q ls f,λP=>?_,λz a=>?_,λz a=>?_,λz a=>?_,λz A c B a P hr hB=>?_⟩
 ·obtain⟨R,_,_⟩:=Ej P;obtain⟨i,j,⟨S,T⟩,V⟩:=ni R;obtain⟨r,rfl⟩:∃k:Nat,W=(k:Int):=⟨W.toNat,by have:=i.1;omega⟩;obtain⟨s,rfl⟩:∃k:Nat,H=(k:Int):=⟨H.toNat,by have:=j.1;omega⟩;obtain⟨l,rfl⟩:∃k:Nat,q=(k:Int):=⟨q.toNat,aa⟩;have b:=Ah (I:=I) (q:=l) (ls:=ls) (ref:=f) i j;have d:=vH (W:=r) (H:=s) (I:=I) (q:=l) (ls:=ls) (ref:=f);obtain⟨x1,x2,x3⟩:=i;obtain⟨y1,y2,y3⟩:=j;have hd:r*s<=32*32:=eZ aa aa;refine⟨hd,?_,by unfold qW;rw[Af,d],d⟩;have u:(jM r s I l ls f).length=s*r:=by rw[d,Int.toNat_natCast,Int.toNat_natCast,Nat.mul_comm]
  simp only[bV,qW,Bool.and_eq_true,Af] at b⊢;exact⟨b.1,b.2.1,b.2.2.1,Ag _ _ b.2.2.2 u λp hp=>vS aa aa hp⟩
 ·obtain⟨v,x,y,o⟩:=E z a;exact WW W H I q G J ls.length K L ls RW F (h1.q a (ay _)) a.size rfl v x y o (M.q a (ay _)) a.size N aa
 ·obtain⟨v,x,y,o⟩:=E z a;exact V2 W H I q G J K L RW F (h1.q a (ay _)) a.size rfl aa h3 o (M.q a (ay _)) a.size N aa
 ·obtain⟨v,x,y,o⟩:=E z a;exact(JL W H I q G J ls.length K L ls RW F (h1.q a (ay _)) a.size rfl v x y o (M.q a (ay _)) a.size N aa).mono λe w' h=>⟨h.1,h.2.1⟩
 ·obtain⟨R,_,_⟩:=Ej P;obtain⟨i,j,⟨S,T⟩,V⟩:=ni R;obtain⟨r,rfl⟩:∃k:Nat,W=(k:Int):=⟨W.toNat,by have:=i.1;omega⟩;obtain⟨s,rfl⟩:∃k:Nat,H=(k:Int):=⟨H.toNat,by have:=j.1;omega⟩;obtain⟨l,rfl⟩:∃k:Nat,q=(k:Int):=⟨q.toNat,aa⟩;have b:=Ah (I:=I) (q:=l) (ls:=ls) (ref:=f) i j;have d:=vH (W:=r) (H:=s) (I:=I) (q:=l) (ls:=ls) (ref:=f);obtain⟨x1,x2,x3⟩:=i;obtain⟨y1,y2,y3⟩:=j;obtain⟨v,x,y,o⟩:=E z a;exact Rb c l hr hB d b aa o
end
section
open Go.RowKit Go.WideShapes Go.ChangeShapes
theorem FK{a:aic}{v:AS}(h:w.cell? a=an v):a.block<w.heap.size/\a.spot=ns:=by
 unfold aiu at h;rcases cZ a.block w.heap.size with b|b
 ·refine⟨b,?_⟩;rcases c:a.spot with _|s
  ·rfl
  ·grind
 ·simp_all
def afF:Open.wC:=by
 intro w v J K many a h;obtain⟨p,m,c,rfl,hm,y,l,hc⟩:=h.data;have z:=(FK h.e1).1;have B:=(FK h.e2).1
 obtain⟨xs,C,D⟩:∃xs:List Int,xs.length=m/\bC w w.heap.size p xs:=by
  rcases y with⟨rfl,rfl⟩|⟨t,rfl,hd⟩
  ·exact⟨[],rfl,bC.nil _ _ _⟩
  ·by_cases h0:m=0
   ·subst h0;exact⟨[],rfl,bC.nil _ _ _⟩
   ·have q:∀j,∃x:Int,j<m->w.cell? (t.add j)=an (.int .u8 x):=λj=>by
     by_cases M:j<m
     ·simp_all
     ·simp[*]
    obtain⟨f,u⟩:=Classical.axiomOfChoice q;have c0:=FK (u 0 aa);obtain⟨b,o,s⟩:=t;obtain⟨E,F⟩:=c0;subst F;refine⟨(List.range m).map f,au,λ_=>⟨b,o,rfl,E,λi hi=>?_⟩⟩;have k:i<m:=eN;have hc:=u i k
    have G:(⟨b,o,ns⟩:aic).add i=⟨b,o+i,ns⟩:=by
     unfold Addr.add;by_cases r:i=0
     ·simp
     ·rw[if_neg r]
    rw[G] at hc;rw[hc];simp[k]
 refine(Mw c many a D C ⟨l,by unfold maxLen;omega⟩ (ay _) ⟨h.e1,h.e2,z,B⟩ h.c1 h.c2).mono ?_;intro e N d;obtain⟨h1,_⟩:=d;cases H:fh xs many a with
 |none=>simp_all
 |some L=>rw[H] at h1;obtain⟨v,rfl,I⟩:=h1;obtain⟨A,c,rfl⟩:=I.form;exact⟨A,many.toNat,c,AT,rfl⟩
end
end Go.Proofs.Q0
namespace Go.Proofs.Q0.aM
section
variable[ah]
open Go.Conc
open Go.ConcN (sumTo upd sumTo_upd upd_same upd_ne)
omit [ah] in
def mapM_pure(ts:Array AS)(f:ResultVar->Sem AS)(a:∀t,f (.tmp t)=pure (ts.getD t undef)):∀(l:List ResultVar),(∀r∈l,∃t,r=.tmp t)->∃vs:List AS,(l.mapM f:Sem (List AS))=pure vs
 |[],_=>⟨[],rfl⟩
 |r::l,h=>by obtain⟨vs,b⟩:=mapM_pure ts f a l λx c=>h x (by simp[c]);obtain⟨t,rfl⟩:=h r au;refine⟨ts.getD t undef::vs,?_⟩;rw[List.mapM_cons,a,b];rfl
omit [ah] in
def MD{fn:Func}(h:∀r∈fn.results,∃t,r=.tmp t)(ts:Array AS):∃v,results fn ts=pure v:=by
 obtain⟨b,c⟩:=mapM_pure ts (λr=>match r with|.tmp t=>pure (ts.getD t undef)|.cell a t=>do loadVar t (<-asAddr (ts.getD a undef))) (λt=>rfl) fn.results.toList λr d=>h r (jw.1 d);refine⟨if h:b.toArray.size=1 then b.toArray[0] else .tuple b.toArray,?_⟩;unfold results;rw[Array.mapM_eq_mapM_toList]
 erw [c]
 rfl
section
variable{P:OF}{K:aI}
def aeD(J:dz P){φ:Ren}{g:BE}{wg:rl}{a:BE}{w:rl}{R:AS->Array Obj->Prop}(h:dJ P K [] φ g wg a w)(L:Lv P g)(M:jl P R g wg.heap):
  ∃z v v',R v wg.heap/\Ren.le φ z/\VR z v v'/\a.status=.running/\∀d,aiq P.two AT a (w.at d)=.ended (.done v') (w.at d) #[]:=by
 obtain⟨fr,c,N,Q,rfl,rfl,e,A,S,_,_⟩:=h;obtain⟨f0,e0,_⟩:=L
 have B:N=[]:=by exact LU
 subst B;cases A;obtain⟨fn,v,n,H,o,p,⟨r,s⟩,T⟩:=M;change fr.mode=.returning at n;change fr.defers=[] at H;change P.funcs[fr.fn]?=an fn at o
 have k:c.mode=.returning:=by have h:=e.mode;rw[n] at h;generalize c.mode=q at h;cases h;rfl
 have V:c.defers=[]:=by have hd:=e.defers;rw[H] at hd;generalize c.defers=t' at hd;cases hd;rfl
 have C:=e.kind.2;obtain⟨W,t,l,f,u,_,D,_⟩:=J fr.fn e.jL;rw[o] at l;cases l;have f:P.two.funcs[c.fn]?=an t:=by rw[e.fn];exact f
 have E:results t c.tmps=results fn c.tmps:=by unfold results;rw[u]
 obtain⟨v1,x⟩:=MD r fr.tmps;obtain⟨v',y⟩:=MD r c.tmps
 have ev:v1=v:=by obtain⟨X,j,_⟩:=p wg rfl;change(results fn fr.tmps).run P wg=.ok v X at j;rw[x] at j;cases j;rfl
 subst ev;have F:WR K φ (wg.on (spliced wg w) wg.drawn) w:=⟨S,λi q=>zo wg w i q⟩;have I:=Eg (P:=P) (K:=K) fn D e.tmps;rw[x,y] at I;obtain⟨z,b,Z,d,g1,g2,_,_,g5,_⟩:=I.run #[] F (show(pure v1:Sem AS).run P _=.ok v1 _ from rfl);have eb:b=v':=eN;subst eb;refine⟨z,v1,b,T,g5.le,g2,rfl,λd=>?_⟩
 have e0:aiq P.two AT (G c ([]++[])) (w.at d)=unwind P.two AT c [] ns (w.at d):=by unfold aiq G;dsimp only;rw[k];rfl
 rw[e0];unfold unwind;rw[V];rw[k];rw[f];dsimp only;rw[E,y];show GStep.after (seen P.two c.fn #[]) (doReturn P.two AT c [] ns b (w.at d))=_;have m:P.two.inits.idxOf? c.fn=ns:=by rw[e.fn];exact s
 simp only[doReturn,C,GStep.after,m];rfl
end
section
variable{P:OF}{Sh:Loc->Prop}{Post:AS->rl->Prop}
def Hh(P:OF)(Sh:Loc->Prop)(Post:AS->rl->Prop)(c:Nat)(m:Machine)(t:aiX):Prop:=
 ∃(b:Array BE)(a:BE)(w:rl)(sl:Option (Nat×Nat))(q:Nat->Nat),m=crowd b w sl/\b[0]?=an a/\dS P Sh b w t q/\a.status=.running/\
  (∀d,∃v,aiq P AT a (w.at d)=.ended (.done v) (w.at d) #[]/\Post v (w.at d))/\c=sumTo b.size q
theorem aas(E:Nat)(m:Machine)(t:aiX)(h:Hh P Sh Post E m t):
  (∃o w f,stepT P m=(.ended o w,f)/\Go.Conc.Good P Post m o w (t++f))\/(∃m' f s,stepT P m=(.next m',f)/\s<E/\Hh P Sh Post s m' (t++f)):=by
 obtain⟨y,a,w,sl,q,rfl,h0,hF,c,l,rfl⟩:=h;obtain⟨i,g,d,r,hi,F,u⟩:=crowd_pick (P:=P) (w:=w) (sl:=sl) (hF.awake h0 c) ⟨0,a,h0,c⟩;rcases iI i with rfl|p
 ·obtain rfl:g=a:=by rw[h0] at hi;exact(aH hi).symm
  obtain⟨v,he,H⟩:=l d;have b:=runT_many_ended (P:=P) (sl:=r) (i:=0) hi (show aiq P (0==0) g (w.at d)=_ from he);have I:MemOp.ofEvents 0 g.frame.fn g.frame.place #[]=#[]:=rfl;rw[I] at b;refine .inl ⟨_,_,_,u.trans b,v,rfl,H,by simpa using hF.ct.nr,by simpa using hF.over,⟨λx z=>?_,rfl⟩,λj x z A=>?_⟩
  ·obtain⟨j,A⟩:=List.mem_iff_getElem?.1 z;rw[List.getElem?_drop] at A;exact⟨_,(hF.lv.old (1+j) x aa (by simpa[crowd] using A)).leaves⟩
  ·have hq:=hF.lv.old j x aa z;refine⟨q j,?_⟩;exact hq.hears _
 ·have hq:=hF.lv.old i g p hi;have tX:(i==0)=Ba:=eW;have aV:=(bU.1 hi).1;cases Nm:q i with
  |zero=>rw[Nm] at hq;rw[hq.1] at F;cases F
  |succ k=>
   rw[Nm] at hq;rcases hq with⟨L,_⟩|⟨_,J,es,hm,Bv,B⟩
   ·simp_all
   have b:=runT_crowd_go (P:=P) (sl:=r) (i:=i) hi yD;have C:=hF.Gr (n:=d) hi p hm B
   have D:woken P g J (w.at d) a=a:=by
    unfold woken;split
    ·exact Go.Conc.again_running _ (.inl c)
    ·rfl
   have G:sumTo y.size (TO q i k)+(k+1)=sumTo y.size q+k:=by exact Dn
   exact .inr ⟨_,_,sumTo y.size (TO q i k),u.trans b,aa,_,a,w.at d,r,TO q i k,rfl,by rw[Array.getElem?_setIfInBounds_ne aa,ajN,h0,ajc,D],C,c,λe=>l e,au⟩
def Yh{b:Array BE}{a:BE}{w:rl}{sl:Option (Nat×Nat)}{t:aiX}{q:Nat->Nat}(h0:b[0]?=an a)(hF:dS P Sh b w t q)(c:a.status=.running)
  (e:∀d,∃v,aiq P AT a (w.at d)=.ended (.done v) (w.at d) #[]/\Post v (w.at d)):
  ∃N last o w' f,runNT P (N+1) (crowd b w sl) t=(.ended o w',f)/\runN P N (crowd b w sl)=.next last/\Go.step P last=.ended o w'/\Go.Conc.Good P Post last o w' f:=
 run_of_inv Nat.lt_wfRel.wf (Hh P Sh Post) (Go.Conc.Good P Post) (λg m t h=>aas g m t h) _ _ _ ⟨b,a,w,sl,q,rfl,h0,hF,c,e,rfl⟩
end
end
end Go.Proofs.Q0.aM
namespace Go.Proofs.Q0.Open
section
open Go.Conc Go.ConcN aM
variable[aG]
structure nO(K:aI)(φ ψ:Ren)(w w':rl):Prop where
 le:Ren.le φ ψ
 io:iZ w w'
 size:w.heap.size<=w'.heap.size
 apart:∀c,c<w.heap.size->(∀b,φ b=an c->K.ro b\/K.tok b)->w'.heap[c]?=w.heap[c]?
 ky:∀b c,ψ b=an c->φ b=an c\/w.heap.size<=c
def nO.refl(K:aI)(φ:Ren)(w:rl):nO K φ φ w w:=⟨Ren.le_refl _,.refl _,ay _,λ_ _ _=>rfl,λ_ _ h=>.inl h⟩
def nO.trans{K:aI}{φ ψ f:Ren}{a b c:rl}(h:nO K φ ψ a b)(k:nO K ψ f b c):nO K φ f a c:=
 ⟨Ren.le_trans h.le k.le,h.io.trans k.io,aQ h.size k.size,λx g i=>by
  rw[k.apart x (Nat.lt_of_lt_of_le g h.size) λy j=>?_,h.apart x g i];rcases h.ky y x j with e|e
  ·simp_all
  ·omega,λx y d=>by
  rcases k.ky x y d with e|e
  ·exact h.ky x y e
  ·exact .inr (aQ h.size e)⟩
theorem afG(E:Env)(i:wC){K:aI}(y:K.strict=AT)(hG:K.G=Gz.prog.globals.size)(z:∀b,E.J.cl b<->K.tok b)
  (hB:@dz aG.toah Gz.prog)(hC:@ef aG.toah Gz.prog)(hF:@dX aG.toah Gz.prog K){Q:BE->Array Obj->Prop}{x:BE×rl}(hx:Acc (fJ Gz.prog) x):
  ∀(g:Array BE)(a:BE)(w:rl)(sl:Option (Nat×Nat))(t:aiX)(q:Nat->Nat)(φ:Ren)(Sh:Loc->Prop),bO Gz.prog Q x.1 x.2->@dJ aG.toah Gz.prog K [] φ x.1 x.2 a w->dS Tryz.prog Sh g w t q->g[0]?=an a->kX Sh φ->
   ∃N f a' w' A t' q' ψ g' j B,runNT Tryz.prog N (crowd g w sl) t=(.next (crowd f w' A),t')/\f[0]?=an a'/\dS Tryz.prog B f w' t' q'/\bO Gz.prog Q g' j/\Lv Gz.prog g'/\@dJ aG.toah Gz.prog K [] ψ g' j a' w'/\nO K φ ψ w w':=by
 induction hx with
 |intro x _ ih=>
  intro g a w sl t q φ Sh hW hD C ha D;obtain⟨N1,rG,a1,w1,IZ,t1,q1,k,g1,UR,r1,z1,e1,f1,F,H,d,pm,l,I,L⟩:=X4 (Sh:=Sh) hB hC E.SZ hG hF (x:=x) hW.acc (sumTo g.size q) g a w sl t q φ (ay _) hW hD (by rw[aG.two];exact C) ha D;rw[aG.two] at r1 f1;have M:nO K φ k w w1:=⟨d.le,⟨d.os,d.out⟩,d.size,λc hc h=>d.apart c hc h,λb c hb=>(d.fresh b c hb).imp_right λh=>h.2⟩;rcases I with hl|hA
  ·grind
  ·obtain⟨N2,P,a2,w2,R,t2,q2,m,g2,n,S,r2,e2,f2,o,T,V,W,p,r,s,u,v,_⟩:=aen i y hG z hA F L f1 e1 l;have X:nO K k m w1 w2:=⟨p,r,s,λc hc _=>u c hc,v⟩
   have hN:fJ Gz.prog (g2,n) x:=by
    rcases H with e|h
    ·grind
    ·exact V.trans h
   obtain⟨N3,Z,a3,w3,sl3,t3,q3,ψ3,g3,wg3,Sh3,r3,e3,f3,rD,xu,hD3,hk3⟩:=ih (g2,n) hN P a2 w2 R t2 q2 m S T W f2 e2 o;refine⟨N1+(N2+N3),Z,a3,w3,sl3,t3,q3,ψ3,g3,wg3,Sh3,?_,e3,f3,rD,xu,hD3,(M.trans X).trans hk3⟩;rw[runNT_add,r1];show runNT _ (N2+N3) _ _=_;rw[runNT_add,r2];exact r3
def adI{a:BE}{w:rl}:dS Tryz.prog (λ_=>False) #[a] w #[] (λ_=>0):=by
 have he:∀i x,touchAt (#[]:aiX) i=an x->False:=λi x h=>by simp[touchAt,Trace.act?] at h
 exact⟨leavers_one _ _,⟨λi op x hi=>by simp at hi,λk _ _ l h=>h.elim,λk _ _ l h=>h.elim,λl _ _ i a b=>(he i a b).elim,λl _ _ i a b=>(he i a b).elim,past_nil.clean,λi op hi=>by simp at hi⟩,au,λi x c=>(he i x c).elim,past_nil.over,rfl,au,λ_ h=>h.elim⟩
end
end Go.Proofs.Q0.Open
namespace Go.Proofs.Q0.aM
variable{b:Nat}
section
variable[ah]
theorem GI(ip:∀v,ah.jk v)(φ:Ren):∀v:AS,∃x,VR φ x v
 |.bool b=>⟨_,.bool b⟩
 |.agg xs=>by
  have h:∀i:Nat,∃x,∀y,xs[i]?=an y->VR φ x y:=λi=>by
   by_cases hi:i<xs.size
   ·obtain⟨x,g⟩:=GI ip φ xs[i];exact⟨x,λy d=>by rw[aik hi] at d;cases d;exact g⟩
   ·exact⟨undef,λy d=>by rw[ajT aa] at d;cases d⟩
  refine⟨.agg (Array.ofFn λi:Fin xs.size=>(h i).choose),.agg au λi x y g d=>?_⟩;have hi:i<xs.size:=(bU.1 d).1;rw[Array.getElem?_ofFn,dif_pos hi] at g;cases g;exact(h i).choose_spec y d
 |.tuple xs=>by
  have h:∀i:Nat,∃x,∀y,xs[i]?=an y->VR φ x y:=λi=>by
   by_cases hi:i<xs.size
   ·obtain⟨x,g⟩:=GI ip φ xs[i];exact⟨x,λy d=>by rw[aik hi] at d;cases d;exact g⟩
   ·exact⟨undef,λy d=>by rw[ajT aa] at d;cases d⟩
  refine⟨.tuple (Array.ofFn λi:Fin xs.size=>(h i).choose),.tuple au λi x y g d=>?_⟩;have hi:i<xs.size:=(bU.1 d).1;rw[Array.getElem?_ofFn,dif_pos hi] at g;cases g;exact(h i).choose_spec y d
 |.int k n=>⟨_,.int k n⟩
 |.float k b=>⟨_,.aX (ip _) ⟨λ_ e=>bG,λ_ e=>bG,λ_ e=>bG⟩⟩
 |.complex k a b=>⟨_,.aX (ip _) ⟨λ_ e=>bG,λ_ e=>bG,λ_ e=>bG⟩⟩
 |.string s=>⟨_,.string s⟩
 |.pointer a=>⟨_,.aX (ip _) ⟨λ_ e=>bG,λ_ e=>bG,λ_ e=>bG⟩⟩
 |.slice a n c=>⟨_,.aX (ip _) ⟨λ_ e=>bG,λ_ e=>bG,λ_ e=>bG⟩⟩
 |.map r=>⟨_,.aX (ip _) ⟨λ_ e=>bG,λ_ e=>bG,λ_ e=>bG⟩⟩
 |.chan r=>⟨_,.aX (ip _) ⟨λ_ e=>bG,λ_ e=>bG,λ_ e=>bG⟩⟩
 |.func f a b=>⟨_,.aX (ip _) ⟨λ_ e=>bG,λ_ e=>bG,λ_ e=>bG⟩⟩
 |.nilFunc=>⟨_,.nilFunc⟩
 |.iface t v=>⟨_,.aX (ip _) ⟨λ_ e=>bG,λ_ e=>bG,λ_ e=>bG⟩⟩
 |.nilIface=>⟨_,.nilIface⟩
termination_by v=>SizeOf.sizeOf v
decreasing_by
 all_goals
  have:=Array.sizeOf_getElem xs i hi;simp;omega
def mv(n:Nat)(ts:List Nat):AS->AS
 |.iface u (.pointer (an a))=>if a.block∈ts then .iface u (.pointer (an {a with block:=n+ts.idxOf a.block})) else .iface u (.pointer (an a))
 |v=>v
open Classical in
noncomputable def tK(ip:∀v,ah.jk v)(φ:Ren)(m:Value->Value)(v:Value):Value:=if VR φ (m v) v then m v else(GI ip φ v).choose
theorem aeE(ip:∀v,ah.jk v)(φ:Ren)(m:AS->AS)(v:AS):VR φ (tK ip φ m v) v:=by
 unfold tK;split
 ·omega
 ·grind
theorem aat(ip:∀v,ah.jk v){φ:Ren}{m:AS->AS}{v:AS}(h:VR φ (m v) v):tK ip φ m v=m v:=if_pos h
def rowsOf(h:Array Obj):Ren:=λb=>match h[b]? with|some (.cells ..)=>an b|_=>ns
theorem D4{h:Array Obj}{b c:Nat}(e:rowsOf h b=an c):c=b/\∃cs t f,h[b]?=an (.cells cs t f):=by
 unfold rowsOf at e;split at e
 ·grind
 ·cases e
theorem NI{h:Array Obj}{b:Nat}{cs:Array AS}{t:SL}{f:Nat×Nat}(e:h[b]?=an (.cells cs t f)):rowsOf h b=an b:=by unfold rowsOf;rw[e]
def fN(ts:List Nat)(h:Array Obj):Ren:=λb=>if b<h.size then rowsOf h b else ts[b-h.size]?
noncomputable def nv(ip:∀v,ah.jk v)(ts:List Nat)(h:Array Obj)(tok:Bool):Obj->Obj
 |.cells cs t _=>if tok then .stringIter default 0 else .cells (cs.map (tK ip (fN ts h) (mv h.size ts))) t (0,cs.size)
 |_=>.stringIter default 0
noncomputable def startHeap(ip:∀v,ah.jk v)(G:Nat)(ts:List Nat)(h:Array Obj):Array Obj:=(h.mapIdx λb o=>nv ip ts h (b==G) o)++(ts.map λ_=>Obj.stringIter default 0).toArray
def qs(ts:List Nat)(h:Array Obj)(G:Nat):aI where
 ro b:=b<h.size/\(rowsOf h b).isSome=AT/\b≠G
 tok b:=b=G\/(h.size<=b/\b<h.size+ts.length)
 strict:=AT
 G:=G
variable{ts:List Nat}{h:Array Obj}{G:Nat}(ip:∀v,ah.jk v)
theorem D5(a:b<h.size):fN ts h b=rowsOf h b:=if_pos a
theorem zw(a:h.size<=b):fN ts h b=ts[b-h.size]?:=if_neg (pP.2 a)
theorem DW{b:Nat}{cs:Array AS}{t:SL}{f:Nat×Nat}(e:h[b]?=an (.cells cs t f)):fN ts h b=an b:=by rw[D5 (Array.getElem?_eq_some_iff.1 e).1,NI e]
theorem XB{b:Nat}(a:b∈ts):fN ts h (h.size+ts.idxOf b)=an b:=by rw[zw aa,Nat.add_sub_cancel_left];rw[ajR (List.idxOf_lt_length_of_mem a),List.getElem_idxOf]
theorem DX(hb:b<h.size):(startHeap ip G ts h)[b]?=(h[b]?).map (nv ip ts h (b==G)):=by unfold startHeap;rw[Array.getElem?_append_left uK];simp
theorem DY{b:Nat}(hb:h.size<=b)(a:b<h.size+ts.length):(startHeap ip G ts h)[b]?=an (.stringIter default 0):=by unfold startHeap;rw[Array.getElem?_append_right uK];rw[Array.size_mapIdx,List.getElem?_toArray,List.getElem?_map,ajR aa];rfl
theorem yY:(startHeap ip G ts h).size=h.size+ts.length:=by simp[startHeap]
theorem WY(a:h.size+ts.length<=b):(startHeap ip G ts h)[b]?=ns:=ajT (by rw[yY];exact a)
theorem vj{c:Nat}(a:h.size<=b)(e:fN ts h b=an c):c∈ts/\b<h.size+ts.length:=by rw[zw a] at e;have:=(ow.1 e).1;exact⟨zq e,aa⟩
theorem sf{c:Nat}(a:b<h.size)(e:fN ts h b=an c):c=b/\(rowsOf h b).isSome=AT:=by rw[D5 a] at e;exact⟨(D4 e).1,by rw[e];rfl⟩
theorem vq(b c:Nat)(e:fN ts h b=an c):(qs ts h G).ro b\/(qs ts h G).tok b:=by
 rcases cZ b h.size with hb|hb
 ·by_cases a:b=G
  ·exact .inr (.inl a)
  ·exact .inl ⟨hb,(sf hb e).2,a⟩
 ·exact .inr (.inr ⟨hb,(vj hb e).2⟩)
theorem adJ(hG:∃cs t,h[G]?=an (.cells cs t (0,0))/\0<cs.size)(j:∀b,ah.cl b<->(qs ts h G).tok b)(q:ts.Nodup)(p:∀b,b∈ts->G<b/\∃cs t,h[b]?=an (.cells cs t (0,0))/\0<cs.size):HR (qs ts h G) (fN ts h) (startHeap ip G ts h) h:=by
 obtain⟨r,A,m,s⟩:=hG;have B:=(bU.1 m).1;refine⟨λb c d hb hc=>?_,λb c hb=>?_,λb hb=>⟨?_,rfl⟩,λb c hb=>?_,by rw[yY];show G<=_/\G<=_;omega⟩
 ·rcases cZ b h.size with a|a<;>rcases cZ c h.size with g|g
  ·have h1:=(sf a hb).1;have k:=(sf g hc).1;exact .inl aa
  ·have h1:=(sf a hb).1;have k:=(p _ (vj g hc).1).1;refine .inr ⟨vq _ _ hb,vq _ _ hc,λn=>?_,by show G<=_;omega⟩;rcases(j b).1 n.1 with l|l
   ·omega
   ·omega
  ·have h1:=(sf g hc).1;have k:=(p _ (vj a hb).1).1;refine .inr ⟨vq _ _ hb,vq _ _ hc,λn=>?_,by show G<=_;omega⟩;rcases(j c).1 n.2 with l|l
   ·omega
   ·omega
  ·rw[zw a] at hb;rw[zw g] at hc;obtain⟨h1,k⟩:=ow.1 hb;obtain⟨l,u⟩:=ow.1 hc;have:=(List.getElem_inj q).1 (k.trans u.symm);exact .inl aa
 ·rcases cZ b h.size with a|a
  ·rw[D5 a] at hb;obtain⟨rfl,cs,t,f,h1⟩:=D4 hb;refine⟨nv ip ts h (c==G) (.cells cs t f),_,by rw[DX ip a,h1];rfl,h1,?_⟩;by_cases e:c=G
   ·subst e;rw[m] at h1;cases h1;have w:nv ip ts h (c==c) (.cells r A (0,0))=.stringIter default 0:=by simp[nv]
    rw[w];exact .token _ _ _ _ (.inl rfl) s λ_=>rfl
   ·have C:(c==G)=Ba:=by simpa using e
    have w:nv ip ts h (c==G) (.cells cs t f)=.cells (cs.map (tK ip (fN ts h) (mv h.size ts))) t (0,(cs.map (tK ip (fN ts h) (mv h.size ts))).size):=by simp[nv,C]
    rw[w];have o:¬(qs ts h G).tok c:=λx=>x.elim e λy=>by omega
    exact .shut t ⟨a,by rw[hb];rfl,e⟩ o ⟨au,λi x y z D=>by rw[ajN,D] at z;cases z;exact aeE ip _ _ _⟩ λx=>absurd ((j c).1 x) o
  ·obtain⟨h1,k⟩:=vj a hb;obtain⟨_,cs,t,l,u⟩:=p c h1;exact⟨_,_,DY ip a k,l,.token _ _ _ _ (.inr ⟨a,k⟩) u λ_=>rfl⟩
 ·rw[yY];rcases hb with hb|hb|hb
  ·have:=hb.1;omega
  ·omega
  ·omega
 ·show b<G<->c<G;rcases cZ b h.size with a|a
  ·rw[(sf a hb).1]
  ·have:=(p _ (vj a hb).1).1;omega
theorem NJ{w wg:rl}(hw:w.heap=h)(d:wg.heap=startHeap ip G ts h){a:aic}{v:AS}(hc:w.cell? a=an v)(k:a.block≠G)(i:VR (fN ts h) (mv h.size ts v) v):wg.cell? a=an (mv h.size ts v):=by
 unfold aiu at hc⊢;rw[hw] at hc;rw[d];cases c:h[a.block]? with
 |none=>rw[c] at hc;cases hc
 |some o=>
  rw[c] at hc;have e:=(bU.1 c).1;cases o with
  |cells l t f=>
   have j:(a.block==G)=Ba:=eN;rw[DX ip e,c];simp only[ajc,nv,j] at hc⊢;cases g:a.spot with
   |some s=>rw[g] at hc;simp at hc
   |none=>rw[g] at hc;simp only[Option.isSome_none,Bool.false_eq_true,if_false] at hc⊢;rw[ajN,hc];simp[aat ip i]
  |_=>simp at hc
end
theorem Zo[ah](ip:∀v,ah.jk v)(G:Nat)(ts:List Nat)(h:Array Obj):kJ (λ_=>Ba) (startHeap ip G ts h)=startHeap ip G ts h:=by
 apply zc;intro b;rw[vi];rcases cZ b h.size with hb|hb
 ·rw[DX ip hb];cases h[b]? with
  |none=>rfl
  |some o=>cases o with|cells d t f=>cases c:(b==G)<;>simp[nv,gK]|_=>rfl
 ·rcases cZ b (h.size+ts.length) with a|a
  ·rw[DY ip hb a];rfl
  ·rw[WY ip a];rfl
end Go.Proofs.Q0.aM
