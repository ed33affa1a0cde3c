import Derived.Test.YtjjdeakghpmpfaaGreatDoorK8
import Derived.Laws.StructEq
import Derived.Laws.Tables
import Derived.RangeFuncNested
import Derived.RangeFuncBound
import Derived.RangeFuncCalls
import Derived.RangeFuncLeaves
import Derived.Shelf.Abstract
import Derived.Shelf.RegionOpen
import Derived.OwnWalkIn
import Derived.TacticsInMore
import Derived.LoopNIn
import Derived.LoopIn
set_option maxRecDepth 100000
set_option maxHeartbeats 8000000
set_option linter.all false
open Go.Value renaming int->U,slice->Y,bool->a9,agg->a5,pointer->ci,tuple->dl,iface->em
open Go.IntKind renaming i64->O
open Go.Obj renaming cells->ac
open Go.Ending renaming returned->be
open Array renaming replicate_succ->akH,replicate_zero->akI
open Bool renaming eq_iff_iff->akP,false_eq_true->aiP
open Go renaming Calls->UL,Oper->aku,TypeId->EV,Value->rl,World->ns,execOp->ait,run_underlying->alb,wpList->aja
open Go.Op renaming equalIn->aiM
open Go.Region renaming wanted->aiu
open Go.Result renaming andThen_ok->aiY
open Go.Sem renaming run_bind->aiC,run_pure->ajH
open Go.World renaming size_alloc->BE
open List renaming all_cons->akM,all_eq_true->aiE,append_assoc->aiK,append_toArray->akZ,cons_append->ajn,length_append->aiw,length_cons->aiS,length_map->ajA,length_nil->akc,nil_append->ajM,range->aiB,range_succ->aju,replicate->an
open Nat renaming reduceAdd->ajp
namespace Go.Proofs
def xG{p:Prop}(h:p:=by rw[bP (by omega)];rfl):p:=h
def Ke{p:Prop}(h:p:=by rw[bP aa] at hj;rw[fP _ _ _ _ hj];obtain rfl:j=0:=aa;simp):p:=h
def Kf{p:Prop}(h:p:=by unfold part;simp only[Sem.run_bind,ha,Result.andThen_ok,hs,Qy,if_true];rfl):p:=h
def Kg{p:Prop}(h:p:=by
  rw[bP aa] at hi;rw[fP _ _ _ _ hi];rcases i with _|_|_|_|i
  ·rfl
  ·rfl
  ·rfl
  ·rfl
  ·omega):p:=h
def Kh{p:Prop}(h:p:=by rw[zA m 7 16 48 aa,zA m 23 16 32 aa,zA m 39 16 16 aa];rfl):p:=h
def Ki{p:Prop}(h:p:=by rw[hm];have H:=af he;go_enter Gz.gf func151,ntmps151;go_wp2;go_ret;exact⟨by rw[<-H.out];rfl,rfl⟩):p:=h
def qX{p:Prop}(h:p:=by show w.heap.size+1≠g;omega):p:=h
def xH{p:Prop}(h:p:=by show w.heap.size<=g;omega):p:=h
def Kj{p:Prop}(h:p:=by
  go_wp2;go_roundw;case rel=>exact⟨k+1,aa,aH,n1.out,n2.out,n3.out⟩
  case measure=>simp[intOf];omega):p:=h
def Kk{p:Prop}(h:p:=by go_wp2_with(first|(first|refine eY rfl rfl rfl aG ?_|refine eX aD rfl rfl aG ?_)|(refine iH rfl _ _ rfl _ rfl _ _ rfl dh aG ?_;intro w9 b9 g9 s9));refine bodyPost_ret (v:=a5 (arr _)) (results_cell_row aD _ _ _ _ _ _ _ aD (Bl.blk b9) (Gz.gu underlying82) rfl (by rw[bO,Bq];exact mP)) rfl ⟨by rw[I'.out],?_⟩;exact K3.out.grown g9 λk e=>by have:=aL e;omega):p:=h
def Kl{p:Prop}(h:p:=by(go_wp2_with((with_reducible refine rC (ty:=85) _ (k*71) ?_ ?_ _ hl 71 ?_ _ (Gz.gu underlying85) ?_ fY ?_);exact rfl;exact rfl;omega;exact rfl;rw[pF]);go_ret;refine⟨_,rfl,?_,K2.out.trans (q5.alloc _)⟩;rw[PN (QK aT HB.out)];exact aK.jT w5 w.heap.size (aJ cC q5.size))):p:=h
def LS{p:Prop}(h:p:=by obtain⟨j,hj⟩:∃j,n=j+1:=⟨n-1,aa⟩;rw[hj,uP,List.length_append] at hlen;have:=EU ap (aO xs j);omega):p:=h
abbrev uC:=@Go.KeepsOthers.setCell
end Go.Proofs
namespace Go.Proofs.Q0
open Go.Proofs.Tryz
variable{xs ys m:List Int}{n s k g:Nat}{x y:Operand}{gd:Option (Nat×Bool)}{pos:String}{ty:EV}{w:ns}
section
open Go.RowKit Go.WideShapes Go.ChangeShapes
section
variable{P:Program}
def MC(d n s:Nat)(t b:EV)(xs ys:Array rl)(f:Nat->Bool)(u v:Nat->rl)(c:P.underlying t=some (.array n b))(e:∀w,(sizeOf b).run P w=.ok s w)(w:ns)
  (h:∀i,i<n->∀w,(part b xs (i*s)).run P w=.ok (u i) w/\(part b ys (i*s)).run P w=.ok (v i) w/\(aiM d b (u i) (v i)).run P w=.ok (f i) w):
  (aiM (d+1) t (a5 xs) (a5 ys)).run P w=.ok ((aiB n).all f) w:=by
 rw[aiM];simp only[aiC,alb c,aiY,e];simp only[Std.Legacy.Range.forIn_eq_forIn_range',Std.Legacy.Range.size,Nat.sub_zero,Nat.add_sub_cancel,Nat.div_one];rw[<-List.range_eq_range'];have h:∀i∈aiB n,∀w,(part b xs (i*s)).run P w=.ok (u i) w/\(part b ys (i*s)).run P w=.ok (v i) w/\(aiM d b (u i) (v i)).run P w=.ok (f i) w:=λi hi=>h i (fz.1 hi);generalize aiB n=l at h
 induction l generalizing w with
 |nil=>simp[ajH]
 |cons i l p=>
  obtain⟨h1,q,r⟩:=h i aj w;simp only[List.forIn_cons,aiC,h1,q,r,aiY,akM];cases f i with
  |false=>simp[ajH]
  |true=>exact p w λj z=>h j (by simp[z])
def QN(n s:Nat)(xs ys:List Int)(b:xs.length=n*s)(p:ys.length=n*s):((aiB n).all λi=>sub xs (i*s) s==sub ys (i*s) s)=(xs==ys):=by
 rw[akP,aiE,beq_iff_eq];constructor
 ·intro h;refine mQ (by rw[b,p]) λj c=>?_;rw[b] at c;have d:0<s:=eO;have hd:=(Nat.div_lt_iff_lt_mul d).2 c;have hm:=Nat.mod_lt j d;have he:j/s*s+j%s=j:=by rw[Nat.mul_comm];exact Nat.div_add_mod j s
  have e:=h (j/s) (fz.2 hd);rw[beq_iff_eq] at e;have f:=fP xs (j/s*s) s (j%s) hm;have l:=fP ys (j/s*s) s (j%s) hm;rw[he] at f l;rw[<-f,<-l,e]
 ·simp_all
def M3(d:Nat){t b:EV}(f:P.underlying t=some (.array n b))(l:∀w,(sizeOf b).run P w=.ok 1 w)(c:∀w,(isAgg b).run P w=.ok false w)(hu:P.underlying b=some (.int .i64))
  (p:xs.length=n)(q:ys.length=n)(w:ns):(aiM (d+1+1) t (a5 (arr xs)) (a5 (arr ys))).run P w=.ok (xs==ys) w:=by
 have h:=MC (P:=P) (d+1) n 1 t b (arr xs) (arr ys) (λi=>xs[i]?.getD 0==ys[i]?.getD 0) (λi=>U O (xs[i]?.getD 0)) (λi=>U O (ys[i]?.getD 0)) f l w λi hi w=>by
  refine⟨?_,?_,run_equalIn_int w d b .i64 .i64 _ _ hu⟩
  ·unfold part;simp only[aiC,c,aiY,Nat.mul_one,mZ xs i aa];rfl
  ·unfold part;simp only[aiC,c,aiY,Nat.mul_one,mZ ys i aa];rfl
 rw[h];congr 1;have e:=QN n 1 xs ys aa aa;rw[<-e];rw[akP,aiE,aiE];refine forall_congr' λi=>forall_congr' λhi=>?_;have hi:=fz.1 hi
 have s1:sub xs (i*1) 1=[xs[i]?.getD 0]:=mQ xG λj hj=>by exact Ke
 have s2:sub ys (i*1) 1=[ys[i]?.getD 0]:=mQ xG λj hj=>by exact Ke
 rw[s1,s2];simp
def XZ(d:Nat){m:Nat}{t b c:EV}(l:P.underlying t=some (.array m b))(hs:∀w,(sizeOf b).run P w=.ok s w)(ha:∀w,(isAgg b).run P w=.ok true w)
  (e:P.underlying b=some (.array s c))(f:∀w,(sizeOf c).run P w=.ok 1 w)(j:∀w,(isAgg c).run P w=.ok false w)(hu:P.underlying c=some (.int .i64))
  (p:xs.length=m*s)(q:ys.length=m*s)(w:ns):(aiM (d+1+1+1) t (a5 (arr xs)) (a5 (arr ys))).run P w=.ok (xs==ys) w:=by
 have r:∀i,i<m->i*s+s<=m*s:=λi hi=>by have:=yz s (show i+1<=m by omega);rw[Nat.succ_mul] at this;exact this
 have h:=MC (P:=P) (d+1+1) m s t b (arr xs) (arr ys) (λi=>sub xs (i*s) s==sub ys (i*s) s) (λi=>a5 (arr (sub xs (i*s) s))) (λi=>a5 (arr (sub ys (i*s) s))) l hs w λi hi w=>by
  have:=r i hi;refine⟨?_,?_,M3 d e f j hu (bP aa) (bP aa) w⟩
  ·exact Kf
  ·exact Kf
 rw[h,QN m s xs ys p q]
variable{ops:Array aku}{rest:List aku}{o:aku}{a:Act}{w:ns}{Q':Exit->Act->ns->Prop}
def WQ(hw:aiu o (yielded ops a.tmps)=true){t:EV}(c:EV)(d:o.op=.binOp .eql t x y c)(e:a.eval x=a5 (arr xs))(f:a.eval y=a5 (arr ys))
  (i:(aiM 10000 t (a5 (arr xs)) (a5 (arr ys))).run P w=.ok (xs==ys) w)(hG:P.eqGuardType P.depth t=false)
  (h:aja P ops Q' rest (a.put o.dst (a9 (xs==ys))) w):aja P ops Q' (o::rest) a w:=
 wpList_step λ_ b=>by rw[if_pos hw];unfold Oper.wp ait;simp only[d,e,f,eqGuard,binOp,Op.equal,Op.maxDepth,aiC,ajH,aiY,Bool.not_true,Bool.not_false,aiP,if_false,if_true,Sem.run_ite,run_program,hG,i];exact b _ _ h
def WT(hw:aiu o (yielded ops a.tmps)=true){t:EV}(c:EV)(d:o.op=.binOp .neq t x y c)(e:a.eval x=a5 (arr xs))(f:a.eval y=a5 (arr ys))
  (i:(aiM 10000 t (a5 (arr xs)) (a5 (arr ys))).run P w=.ok (xs==ys) w)(hG:P.eqGuardType P.depth t=false)
  (h:aja P ops Q' rest (a.put o.dst (a9 (!(xs==ys)))) w):aja P ops Q' (o::rest) a w:=
 wpList_step λ_ b=>by rw[if_pos hw];unfold Oper.wp ait;simp only[d,e,f,eqGuard,binOp,Op.equal,Op.maxDepth,aiC,ajH,aiY,Bool.not_true,Bool.not_false,aiP,if_false,if_true,Sem.run_ite,run_program,hG,i];exact b _ _ h
def mK{dst:Option Tmp}{t c:EV}{b:Array Edge}(hw:aiu ⟨dst,.binOp .neq t x y c,ty,pos,b,gd⟩ (yielded ops a.tmps)=true)(xs ys:List Int)(d:a.eval x=a5 (arr xs))(e:a.eval y=a5 (arr ys))
  (f:(aiM 10000 t (a5 (arr xs)) (a5 (arr ys))).run P w=.ok (xs==ys) w)(hG:P.eqGuardType P.depth t=false)
  (h:aja P ops Q' rest (a.put dst (a9 (!(xs==ys)))) w):aja P ops Q' (⟨dst,.binOp .neq t x y c,ty,pos,b,gd⟩::rest) a w:=
 WT hw c rfl d e f hG h
def mL{dst:Option Tmp}{t c:EV}{b:Array Edge}(hw:aiu ⟨dst,.binOp .eql t x y c,ty,pos,b,gd⟩ (yielded ops a.tmps)=true)(xs ys:List Int)(d:a.eval x=a5 (arr xs))(e:a.eval y=a5 (arr ys))
  (f:(aiM 10000 t (a5 (arr xs)) (a5 (arr ys))).run P w=.ok (xs==ys) w)(hG:P.eqGuardType P.depth t=false)
  (h:aja P ops Q' rest (a.put dst (a9 (xs==ys))) w):aja P ops Q' (⟨dst,.binOp .eql t x y c,ty,pos,b,gd⟩::rest) a w:=
 WQ hw c rfl d e f hG h
def JK{t:EV}(hw:aiu o (yielded ops a.tmps)=true)(ty:EV)(x:Operand)(c:o.op=.load ty x)(g off:Nat)(e:a.eval x=ci (some ⟨g,off,none⟩))(xs:List Int)(h:Nb t n w g xs)(k:Nat)(f:off+k<=n)(d:TypeDesc)
  (hu:P.underlying ty=some d)(hd:d.isRow=true)(hi:(P.info? ty).map (·.size)=some k)
  (hK:aja P ops Q' rest (a.put o.dst (a5 (arr (sub xs off k)))) w):aja P ops Q' (o::rest) a w:=
 wpList_step λ_ b=>by rw[if_pos hw];exact wp_load_mid ty x c g off e _ d (h.range off k f) hu hd (by rw[ajA,bP (by have:=h.len;omega)];exact hi) (b _ _ hK)
def We{t:EV}{B c:Nat}(hw:aiu o (yielded ops a.tmps)=true)(e:o.op=.load ty x){off:Nat}(f:a.eval x=ci (some ⟨g,off,none⟩))(h:az t s w B (Y (some ⟨g,0,none⟩) n c) n xs)(i:off+k<=n*s){d:TypeDesc}
  (hu:P.underlying ty=some d)(hd:d.isRow=true)(hi:(P.info? ty).map (·.size)=some k)
  (hK:aja P ops Q' rest (a.put o.dst (a5 (arr (sub xs off k)))) w):aja P ops Q' (o::rest) a w:=
 wpList_step λ_ b=>by rw[if_pos hw];exact wp_load_mid ty x e g off f _ d (h.range off k i) hu hd (by rw[ajA,bP (by have:=h.1;omega)];exact hi) (b _ _ hK)
def dY{t:EV}{dst:Option Tmp}{b:EV}{c:Array Edge}(g off:Nat)(e:a.eval x=ci (some ⟨g,off,none⟩))(hw:aiu ⟨dst,.load ty x,b,pos,c,gd⟩ (yielded ops a.tmps)=true)(xs:List Int)(h:Nb t n w g xs)(k:Nat)(f:off+k<=n)(d:TypeDesc)
  (hu:P.underlying ty=some d)(hd:d.isRow=true)(hi:(P.info? ty).map (·.size)=some k)
  (hK:aja P ops Q' rest (a.put dst (a5 (arr (sub xs off k)))) w):aja P ops Q' (⟨dst,.load ty x,b,pos,c,gd⟩::rest) a w:=
 JK hw ty x rfl g off e xs h k f d hu hd hi hK
def rC{t:EV}{B c:Nat}{dst:Option Tmp}{b:EV}{e:Array Edge}(g off:Nat)(f:a.eval x=ci (some ⟨g,off,none⟩))(hw:aiu ⟨dst,.load ty x,b,pos,e,gd⟩ (yielded ops a.tmps)=true)(xs:List Int)(h:az t s w B (Y (some ⟨g,0,none⟩) n c) n xs)(k:Nat)(i:off+k<=n*s)(d:TypeDesc)
  (hu:P.underlying ty=some d)(hd:d.isRow=true)(hi:(P.info? ty).map (·.size)=some k)
  (hK:aja P ops Q' rest (a.put dst (a5 (arr (sub xs off k)))) w):aja P ops Q' (⟨dst,.load ty x,b,pos,e,gd⟩::rest) a w:=
 We hw rfl f h i hu hd hi hK
end
end
section
open Go.RowKit Go.WideShapes Go.ChangeShapes
def zY{t:EV}(h:(Gz.prog.info? t).map (·.size)=some s)(w:ns):(sizeOf t).run Gz.prog w=.ok s w:=by
 generalize Gz.prog=P at h⊢;cases hi:P.info? t with
 |none=>rw[hi] at h;cases h
 |some i=>rw[run_sizeOf (P:=P) (w:=w) hi];have:i.size=s:=eg;simp[Program.cellsOf,hi,this]
def FN{t:EV}{d:TypeDesc}(h:Gz.prog.underlying t=some d)(hd:(match d with|.struct _|.array _ _=>true|_=>false)=false)(w:ns):(isAgg t).run Gz.prog w=.ok false w:=by cases d<;>simp_all[isAgg,alb h]
def RI{t:EV}{d:TypeDesc}(h:Gz.prog.underlying t=some d)(hd:(match d with|.struct _|.array _ _=>true|_=>false)=true)(w:ns):(isAgg t).run Gz.prog w=.ok true w:=by cases d<;>simp_all[isAgg,alb h]
def QO:(Gz.prog.info? 3).map (·.size)=some 1:=aC
def qH(b:xs.length=4)(c:ys.length=4):(aiM 10000 81 (a5 (arr xs)) (a5 (arr ys))).run Gz.prog w=.ok (xs==ys) w:=
 M3 9998 (Gz.gu underlying81) (zY QO) (FN (Gz.gu underlying3) rfl) (Gz.gu underlying3) b c w
def TB(b:xs.length=64)(c:ys.length=64):(aiM 10000 83 (a5 (arr xs)) (a5 (arr ys))).run Gz.prog w=.ok (xs==ys) w:=
 XZ 9997 (Gz.gu underlying83) (zY cL) (RI (Gz.gu underlying82) rfl) (Gz.gu underlying82) (zY QO) (FN (Gz.gu underlying3) rfl) (Gz.gu underlying3) b c w
def nC{a b c d:Int}:(aiM 10000 80 (a5 (arr [a,b])) (a5 (arr [c,d]))).run Gz.prog w=.ok ([a,b]==[c,d]) w:=by
 have l:=(Gz.gu underlying3);have e:=run_equalIn_struct (P:=Gz.prog) w 9999 80 (arr [a,b]) (arr [c,d]) ai ai;rw[e];have i:(Gz.prog.fieldsOf 80).toList.map (λf=>(f.name,f.type,f.offset))=[("X",3,0),("Y",3,1)]:=ai
 have j:∀(xs:Array rl)(o:Nat)(x:Int)(w:ns),xs[o]?=some (.int .i64 x)->(part 3 xs o).run Gz.prog w=.ok (.int .i64 x) w:=λxs o x w h=>by unfold part;simp only[aiC,FN l rfl w,aiY,h,aiP,if_false,ajH]
 generalize(Gz.prog.fieldsOf 80).toList=fs at i;rcases fs with _|⟨f1,_|⟨f2,_|⟨f3,r⟩⟩⟩
 ·simp at i
 ·simp at i
 ·simp only[List.map_cons,List.map_nil,List.cons.injEq,Prod.mk.injEq,and_true] at i;obtain⟨⟨p,t1,q⟩,t,t2,u⟩:=i;simp only[Op.eqFields,aiC,Sem.run_ite,p,t,t1,t2,q,u];have v:("X" :String)≠ "_" :=aq;have z:("Y" :String)≠ "_" :=aq;simp only[if_pos v,if_pos z];have q1:=j (arr [a,b]) 0 a w rfl;have A:=j (arr [c,d]) 0 c w rfl;have B:=j (arr [a,b]) 1 b w rfl;have C:=j (arr [c,d]) 1 d w rfl;have D:=run_equalIn_int (P:=Gz.prog) w 9998 3 .i64 .i64 a c l;have E:=run_equalIn_int (P:=Gz.prog) w 9998 3 .i64 .i64 b d l;simp only[q1,A,B,C,D,E,aiY];have F:([a,b]==[c,d])=((a==c)&&(b==d)):=by simp[List.cons_beq_cons]
  rw[F];cases a==c<;>cases b==d<;>simp[ajH]
 ·simp at i
def Xn(x y:Int)(w:ns):UL Gz.prog 116 #[a5 #[U O x,U O y]] w λe w'=>e=be (a9 (decide (-16<=x/\x<=16)&&decide (-16<=y/\y<=16)))/\Q w w':=by
 obtain⟨b,d⟩:∃b,decide (-16<=x/\x<=16)=b:=⟨_,rfl⟩;obtain⟨c,hc⟩:∃c,decide (-16<=y/\y<=16)=c:=⟨_,rfl⟩;rw[d,hc];have f:=af d;have h:=af hc;go_enter Gz.gf func116,ntmps116;go_wp2;refine(cj _ f).mono ?_;rintro e w'⟨rfl,rfl⟩;cases b with
 |false=>exact ri
 |true=>go_wp2;refine(cj _ h).mono ?_;rintro e w'⟨rfl,rfl⟩;exact ri
def sub_one(m:List Int)(k:Nat):m[k]?.getD 0=al m k:=rfl
def Fq(b:m.length=71):kC m=([al m 1,al m 2]==[0,0]):=by unfold kC;simp[List.cons_beq_cons]
def zZ(b:m.length=71):js m=(sub m 3 4==[0,0,0,0]):=by
 have:sub m 3 4=[al m 3,al m 4,al m 5,al m 6]:=mQ xG λi hi=>by exact Kg
 rw[this];unfold js;simp[List.cons_beq_cons,Bool.and_assoc]
def QP(c:m.length=71):qf m=(sub m 7 64==an 64 0):=by
 unfold qf;have hlen:(sub m 7 64).length=64:=bP aa;rw[akP,aiE,beq_iff_eq];constructor
 ·intro h;refine List.eq_replicate_iff.2 ⟨hlen,λx b=>?_⟩;have:=h x b;simpa using this
 ·simp_all
def mu(m:List Int)(k:Nat):Bool:=(aiB k).all λj=>decide (0<=al m (3+j)/\al m (3+j)<=4)&&aS (lvl m j) 4080
def ZY(m:List Int)(k:Nat):mu m (k+1)=(mu m k&&(decide (0<=al m (3+k)/\al m (3+k)<=4)&&aS (lvl m k) 4080)):=by unfold mu;rw[aju,List.all_append];simp
def ac9(b:k<4)(h:(decide (0<=al m (3+k)/\al m (3+k)<=4)&&aS (lvl m k) 4080)=false):mu m 4=false:=by
 cases c:mu m 4 with
 |false=>rfl
 |true=>have:=gY.1 c k (fz.2 b);rw[h] at this;cases this
def zA(m:List Int)(o a b:Nat)(h:o+(a+b)<=m.length):sub m o (a+b)=sub m o a++sub m (o+a) b:=by unfold sub;rw[List.take_add,List.drop_drop]
def ada(q:m.length=71):mu m 4=(lI m&&aS (sub m 7 64) 4080):=by
 have h1:sub m 7 64=lvl m 0++(lvl m 1++(lvl m 2++lvl m 3)):=by exact Kh
 have b:sub m 3 4=[al m 3,al m 4,al m 5,al m 6]:=mQ xG λi hi=>by exact Kg
 unfold lI mu;rw[h1,b,mW,mW,mW];simp only[aju,List.range_zero,ajM,ajn,akM,List.all_nil,Bool.and_true];generalize aS (lvl m 0) 4080=c;generalize aS (lvl m 1) 4080=d;generalize aS (lvl m 2) 4080=e;generalize aS (lvl m 3) 4080=f;generalize decide (0<=al m 3/\al m 3<=4)=h;generalize decide (0<=al m 4/\al m 4<=4)=j;generalize decide (0<=al m 5/\al m 5<=4)=l;generalize decide (0<=al m 6/\al m 6<=4)=p;cases c<;>cases d<;>cases e<;>cases f<;>cases h<;>cases j<;>cases l<;>cases p<;>rfl
def aeA(h:js m=true)(b:m.length=71):lI m=true:=by rw[zZ b,beq_iff_eq] at h;unfold lI;rw[h];rfl
def ZZ(b:m.length=71)(h0:al m 0=0\/al m 0=1\/al m 0=2):df m=(kD m&&mu m 4&&(al m 0==1||kC m)&&(al m 0==2||js m)&&(!(al m 0==0)||qf m)):=by
 have c:=λh=>aeA (m:=m) h b;rw[ada b];unfold df jP;rcases h0 with h|h|h
 ·grind
 ·grind
 ·grind
def OE(h:¬(al m 0=0\/al m 0=1\/al m 0=2)):df m=false:=by unfold df jP;rw[if_neg λe=>h (.inl e),if_neg λe=>h (.inr (.inl e)),if_neg λe=>h (.inr (.inr e))];rfl
end
section
open Go.RowKit
def Fs(F G:Nat->Int)(h:k<16):(a6 (λj=>if j<k then F j else G j) 16).set k (F k)=a6 (λj=>if j<k+1 then F j else G j) 16:=by exact JY
def EW(F G:Nat->Int):a6 (λj=>if j<16 then F j else G j) 16=a6 F 16:=aD
def EX{F:Nat->Int}(h:xs.length=16):a6 (λj=>if j<0 then F j else xs[j]?.getD 0) 16=xs:=by rw[ZK (λj=>xs[j]?.getD 0) 16 λi _=>if_neg aa,afw h]
def FO{F G:Nat->Int}{m:Nat}(h:k<16)(hm:m<=k):(a6 (λj=>if j<m then F j else G j) 16)[k]?.getD 0=G k:=by rw[nY h,if_neg aa]
def z6{M:Int}(h:aS xs M=true)(c:0<=M):cT xs M:=λk=>by
 rcases de k xs.length with b|b
 ·exact mU h k b
 ·simp_all
def agG{M:Int}{t:Bool}(h:xs.length=16)(r:0<=M)(p:M<=100000)(j:Hid (aS xs M=t)):
  UL Gz.prog 117 #[a5 (arr xs),U O M] w λe w'=>e=be (a9 t)/\Q w w':=by
 have q:=Bl.new w xs h;have l:Q w (w.alloc (ac (arr xs) 82)):=aR;go_enter Gz.gf func117,ntmps117;go_wp2;go_loop[5] (λi=>∃k:Nat,k<=16/\i=U O k/\Hid (aS xs M=aS (xs.drop k) M)) (λi=>16-(intOf i).toNat)
 case atStart=>exact⟨0,aa,rfl,rfl⟩
 case round=>
  obtain⟨k,u,rfl,hr⟩:=hrel;by_cases f:k<16
  ·have c:(k:Int)<16:=by omega
   have b:=Pq xs M k aa;have hc:=q.at k f;generalize xs[k]?.getD 0=y at hc b;by_cases d: -M<=y/\y<=M
   ·rw[decide_eq_true d,Bool.true_and] at b;have jn:=af b;go_wp2;refine(nX _ d.1 d.2).mono ?_;rintro e w'⟨rfl,rfl⟩;exact CR
   ·rw[decide_eq_false d,Bool.false_and] at b;have jn:=af b;go_wp2;refine(Fg _ _ _ _ aa).mono ?_;rintro e w'⟨rfl,rfl⟩;go_wp2;go_ret;exact⟨by rw[<-j.out,hr.out,jn.out];rfl,l⟩
  ·have c:k=16:=by omega
   subst c;go_wp2;go_ret;exact⟨by rw[<-j.out,hr.out,List.drop_of_length_le (Nat.le_of_eq h)];rfl,l⟩
def aeB{B:Int}(d:xs.length=16)(f:cT xs B)(b:0<=B)(c:B<=1000000):
  UL Gz.prog 184 #[a5 (arr xs)] w λe w'=>e=be (a5 (arr (iN xs)))/\Q w w':=by
 rw[<-acN d];exact abb w d f b c
def LU{ops:Array aku}{rest:List aku}{c f:aku}{a:Act}{Q':Exit->Act->ns->Prop}(h1:c.guard=none){d:Tmp}(hd:c.dst=some d)(h:c.op=.alloc 82)
  (l:f.guard=none)(i:f.op=.store 82 x y)(p:(a.put (some d) (ci (some ⟨w.heap.size,0,none⟩))).eval x=ci (some ⟨w.heap.size,0,none⟩))
  (q:(a.put (some d) (ci (some ⟨w.heap.size,0,none⟩))).eval y=a5 (arr ys))(r:ys.length=16)
  (hK:∀w',Bl w' w.heap.size ys->Q w w'->w'.heap.size=w.heap.size+1->aja Gz.prog ops Q' rest ((a.put (some d) (ci (some ⟨w.heap.size,0,none⟩))).put f.dst undef) w'):aja Gz.prog ops Q' (c::f::rest) a w:=by
 refine wpList_plain h1 λK j=>?_;have t:(Instr.alloc 82 true (dl #[])).run Gz.prog w=.ok (ci (some ⟨w.heap.size,0,none⟩)) (w.alloc (ac (arr (an 16 0)) 82)):=aD;unfold Oper.wp ait;simp only[h,t,aiC,ajH,aiY];refine j _ _ ?_;rw[hd];refine iH l x y i w.heap.size p (an 16 0) ys q r (Bl.zero w) λw' b g s=>?_;refine hK w' b ?_ (by rw[s];simp);exact((Q.refl w).alloc _).grown g (λk e=>by have:=aL e;omega)
def abx(n d:Int)(hd:0<d):(n.tmod d<0/\n.tdiv d-1=n/d)\/(0<=n.tmod d/\n.tdiv d=n/d):=by exact LH
def adb(n:Int)(h1: -100000000<=n)(d:n<=100000000):
  UL Gz.prog 151 #[U O n,U O 16] w λe w'=>e=be (U O ((n+8)/16))/\w=w':=by
 obtain⟨m,hm⟩:∃m,n+8=m:=⟨_,rfl⟩;rcases abx m 16 aa with⟨b,he⟩|⟨b,he⟩
 ·have c:m.tdiv 16<=100000009:=by omega
  exact Ki
 ·have c:m.tdiv 16<=100000009:=by omega
  have f: -100000009<=m.tdiv 16:=aa;exact Ki
def jW(cs:List Int):List Int:=a6 (λk=>((iN cs)[k]?.getD 0+8)/16) 16
def zB(cs:List Int):(jW cs).length=16:=aD
def Z0(A:xs.length=16)(H:Hid (aS xs 4080=true)):
  UL Gz.prog 127 #[a5 (arr xs)] w λe w'=>e=be (a5 (arr (jW xs)))/\Q w w':=by
 have s1:=bO xs;rw[A] at s1;have r:Q w ((w.alloc (ac (arr xs) 82)).alloc (ac (arr (an 16 0)) 82)):=aR;have B:=(Bl.new w xs A).alloc (ac (arr (an 16 0)) 82);have l:=Bl.zero (w.alloc (ac (arr xs) 82));simp only[BE] at l;have z:=zu xs;have d:=ED (z6 H.out aa) aa;have L:((w.alloc (ac (arr xs) 82)).alloc (ac (arr (an 16 0)) 82)).heap.size=w.heap.size+1+1:=aj;go_enter Gz.gf func127,ntmps127;go_wp2_with(first|refine eY rfl rfl rfl aG ?_|refine eX aD rfl rfl aG ?_);refine(acP A (z6 H.out aa) aa aa).mono ?_;rintro e C⟨rfl,q1⟩;have s2:w.heap.size+1+1<=C.heap.size:=by have:=q1.size;simp only[BE] at this;exact this
 replace B:=B.q q1;replace l:=l.q q1;replace r:=r.trans q1;clear q1;have hinv:∀b,b=iN xs->jW xs=a6 (λk=>(b[k]?.getD 0+8)/16) 16:=λb e=>by rw[e];rfl
 obtain⟨b,f⟩:∃b,b=iN xs:=⟨_,rfl⟩;have M:=af (hinv b f);rw[<-f] at z d⊢;have D:=af d;clear hinv f d;have N:=bO b;rw[z] at N;go_wp2_with(refine LU rfl rfl rfl rfl rfl rfl rfl z ?_;intro W I E R);have F:w.heap.size+2<=C.heap.size:=aa;replace l:=l.q E;replace r:=r.trans E;clear B E L;generalize C.heap.size=g at I R F⊢;go_loopw[4] (λi wr=>∃k:Nat,k<=16/\i=U O k/\Hid (Bl wr g (a6 (λj=>if j<k then(b[j]?.getD 0+8)/16 else b[j]?.getD 0) 16)/\Bl wr (w.heap.size+1) (an 16 0)/\Q w wr)) (λi _=>16-(intOf i).toNat)
 case atStart=>exact⟨0,aa,rfl,by rw[EX z];exact I,l,r⟩
 case round=>
  obtain⟨k,X,rfl,hK⟩:=hrel;obtain⟨t,S,J⟩:=hK.out;by_cases h:k<16
  ·have c:(k:Int)<16:=by omega
   have u:=Fs (λj=>(b[j]?.getD 0+8)/16) (λj=>b[j]?.getD 0) h;have K:=t.at k h;have f1:=t.free k;rw[FO h (Nat.le_refl _)] at K;obtain⟨T,V⟩:=D.out k;generalize b[k]?.getD 0=y at u K T V;have n1:=af (t.set k ((y+8)/16));rw[u] at n1;have n2:=af (S.aN (p:=⟨g,k,none⟩) qX (U O ((y+8)/16)));have n3:=af (J.set (p:=⟨g,k,none⟩) xH (U O ((y+8)/16)));go_wp2;refine(adb y aa aa).mono ?_;rintro e w'⟨rfl,rfl⟩;generalize(y+8)/16=v at n1 n2 n3⊢;exact Kj
  ·have c:k=16:=by omega
   subst c;rw[EW,<-M.out] at t;have K3:=af J;have Bq:=zB xs;generalize G:jW xs=Z at t Bq;have I':=af G;exact Kk
def Wl(C:xs.length=16)(E:Hid (aS xs 4080=true)):
  UL Gz.prog 175 #[a5 (arr xs)] w λe w'=>e=be (a5 (arr (jW xs)))/\Q w w':=by
 have s1:=bO xs;rw[C] at s1;have f:Q w ((w.alloc (ac (arr xs) 82)).alloc (ac (arr (an 16 0)) 82)):=aR;have v:=(Bl.new w xs C).alloc (ac (arr (an 16 0)) 82);have c:=Bl.zero (w.alloc (ac (arr xs) 82));simp only[BE] at c;have z:=zu xs;have l:=ED (z6 E.out aa) aa;have L:((w.alloc (ac (arr xs) 82)).alloc (ac (arr (an 16 0)) 82)).heap.size=w.heap.size+1+1:=aj;go_enter Gz.gf func175,ntmps175;go_wp2_with(first|refine eY rfl rfl rfl aG ?_|refine eX aD rfl rfl aG ?_);refine(yR C aa aa E).mono ?_;rintro e A⟨rfl,q1⟩;have s2:w.heap.size+1+1<=A.heap.size:=by have:=q1.size;simp only[BE] at this;exact this
 replace v:=v.q q1;replace c:=c.q q1;replace f:=f.trans q1;clear q1;go_wp2_with(first|refine eY rfl rfl rfl aG ?_|refine eX aD rfl rfl aG ?_);refine(aeB C (z6 E.out aa) aa aa).mono ?_;rintro e A⟨rfl,q1⟩;have V:w.heap.size+1+1<=A.heap.size:=aJ s2 q1.size;replace v:=v.q q1;replace c:=c.q q1;replace f:=f.trans q1;clear q1;have hinv:∀b,b=iN xs->jW xs=a6 (λk=>(b[k]?.getD 0+8)/16) 16:=λb e=>by rw[e];rfl
 obtain⟨b,r⟩:∃b,b=iN xs:=⟨_,rfl⟩;have M:=af (hinv b r);rw[<-r] at z l⊢;have F:=af l;clear hinv r l;have N:=bO b;rw[z] at N;go_wp2_with(first|(first|refine eY rfl rfl rfl aG ?_|refine eX aD rfl rfl aG ?_)|(refine LU rfl rfl rfl rfl rfl rfl rfl z ?_;intro W G H R));have I:w.heap.size+2<=A.heap.size:=aa;replace c:=c.q H;replace f:=f.trans H;clear v H L;generalize A.heap.size=g at G R I⊢;go_loopw[13] (λi wr=>∃k:Nat,k<=16/\i=U O k/\Hid (Bl wr g (a6 (λj=>if j<k then(b[j]?.getD 0+8)/16 else b[j]?.getD 0) 16)/\Bl wr (w.heap.size+1) (an 16 0)/\Q w wr)) (λi _=>16-(intOf i).toNat)
 case atStart=>exact⟨0,aa,rfl,by rw[EX z];exact G,c,f⟩
 case round=>
  obtain⟨k,X,rfl,hK⟩:=hrel;clear G c f;obtain⟨u,J,D⟩:=hK.out;clear hK;by_cases d:k<16
  ·have h:(k:Int)<16:=by omega
   have t:=Fs (λj=>(b[j]?.getD 0+8)/16) (λj=>b[j]?.getD 0) d;have K:=u.at k d;have f1:=u.free k;have he:=λw=>rq b z d w;rw[FO d (Nat.le_refl _)] at K;obtain⟨S,T⟩:=F.out k;generalize b[k]?.getD 0=y at t K S T he;have n1:=af (u.set k ((y+8)/16));rw[t] at n1;have n2:=af (J.aN (p:=⟨g,k,none⟩) qX (U O ((y+8)/16)));have n3:=af (D.set (p:=⟨g,k,none⟩) xH (U O ((y+8)/16)));have Z:IntKind.i64.wrap (y+8)=y+8:=aB _ ⟨aa,aa⟩;clear t u J D;exact Kj
  ·have h:k=16:=by omega
   subst h;rw[EW,<-M.out] at u;have K3:=af D;clear D;have Bq:=zB xs;generalize B:jW xs=vs at u Bq;have I':=af B;clear B;exact Kk
end
section
open Go.RowKit Go.WideShapes Go.ChangeShapes
def jo:(Gz.prog.info? 80).map (·.size)=some 2:=aC
def mX:(Gz.prog.info? 81).map (·.size)=some 4:=aC
def uW:(Gz.prog.info? 83).map (·.size)=some 64:=aC
def nt:Gz.prog.eqGuardType Gz.prog.depth 80=false:=lU
def pT:Gz.prog.eqGuardType Gz.prog.depth 81=false:=lU
def RJ:Gz.prog.eqGuardType Gz.prog.depth 83=false:=lU
def X0(w:ns)(J:m.length=71):UL Gz.prog 81 #[a5 (arr m)] w λe w'=>e=be (a9 (df m))/\Q w w':=by
 have s1:=bO m;rw[J] at s1;have S:=Nb.new 85 71 w m J;have T:Q w (w.alloc (ac (arr m) 85)):=(Q.refl _).alloc _;have c0:=S.at 0 aa;rw[sub_one] at c0;by_cases v:al m 0=0\/al m 0=1\/al m 0=2
 ·have K:sub m 1 2=[al m 1,al m 2]:=kW m 1 aa;obtain⟨vb,A⟩:∃b,kD m=b:=⟨_,rfl⟩;have j:=A;unfold kD at j;have W:=af (Xn (al m 1) (al m 2) (w.alloc (ac (arr m) 85)));rw[j] at W;have c:Hid (df m=(vb&&mu m 4&&(al m 0==1||kC m)&&(al m 0==2||js m)&&(!(al m 0==0)||qf m))):=by rw[Hid,ZZ J v,A]
  clear A j;have L:=af v;have k0:0<=al m 0:=aa;have k2:al m 0<=2:=aa;clear v;obtain⟨kd,f⟩:∃z,al m 0=z:=⟨_,rfl⟩;rw[f] at c0 k0 k2 c L;have X:=af f;clear f;have d:=S;go_enter Gz.gf func81,ntmps81;go_wp2;refine(nX _ k0 k2).mono ?_;rintro e w'⟨rfl,rfl⟩;go_wp2_with((with_reducible refine dY (ty:=80) _ 1 ?_ ?_ _ d 2 ?_ _ (Gz.gu underlying80) ?_ jo ?_);exact rfl;exact rfl;omega;exact rfl;rw[K]);refine W.out.mono ?_;rintro e w1⟨rfl,q1⟩;clear W;cases vb with
  |false=>go_wp2;go_ret;exact⟨by rw[c.out];rfl,T.trans q1⟩
  |true=>
   have B0:=af (S.q q1);have Q0:=af (T.trans q1);clear S d T q1 c0;go_wp2;go_loopw[3] (λi wr=>∃k:Nat,k<=4/\i=U O k/\Hid (mu m k=true/\Nb 85 71 wr w.heap.size m/\Q w wr)) (λi _=>4-(intOf i).toNat)
   case atStart=>exact⟨0,aa,rfl,rfl,B0.out,Q0.out⟩
   case round=>
    obtain⟨k,v,rfl,hK⟩:=hrel;obtain⟨y0,d,y2⟩:=hK.out;clear hK B0 Q0;have Z:=af y0;have p:=af y2;clear y0 y2;by_cases M:k<4
    ·have ka:(k:Int)<4:=by omega
     have cq:=d.at (3+k) aa;rw[sub_one] at cq;have qI:sub m (7+k*16) 16=lvl m k:=(by unfold lvl;rw[Nat.mul_comm 16 k]);have DE:(lvl m k).length=16:=by unfold lvl;exact bP (by omega)
     have r:=ZY m k;rw[Z.out,Bool.true_and] at r;have B:=af λh=>ac9 (m:=m) (k:=k) M h;obtain⟨bM,C⟩:∃b,decide (0<=al m (3+k)/\al m (3+k)<=4)=b:=⟨_,rfl⟩;obtain⟨bL,D⟩:∃b,aS (lvl m k) 4080=b:=⟨_,rfl⟩;rw[C,D] at r B;have N:=af C;have HBL:=af D;have HPS:=af r;clear C D r;obtain⟨md,R⟩:∃z,al m (3+k)=z:=⟨_,rfl⟩;rw[R] at cq N;clear R;go_wp2;refine(cj _ N).mono ?_;rintro e w'⟨rfl,rfl⟩;cases bM with
     |false=>go_wp2;go_ret;refine⟨?_,p.out⟩;rw[c.out,B.out rfl];simp
     |true=>
      go_wp2_with(refine JK (n:=71) aD _ _ rfl _ (7+k*16) rfl _ d 16 aa _ (Gz.gu underlying82) rfl cL ?_;rw[qI]);refine(agG DE aq aq HBL).mono ?_;rintro e w5⟨rfl,V⟩;cases bL with
      |false=>go_wp2;go_ret;refine⟨?_,p.out.trans V⟩;rw[c.out,B.out rfl];simp
      |true=>
       have b5:=d.q V;have q6:=p.out.trans V;clear d V cq;go_wp2;go_roundw;case rel=>exact⟨k+1,aa,aH,by rw[HPS.out];rfl,b5,q6⟩
       case measure=>exact bg
    ·have ST:k=4:=by omega
     have hke:¬(k:Int)<4:=aa;rw[ST] at Z;have c0:=d.at 0 aa;rw[sub_one,X.out] at c0;have E:=Fq J;have F:=zZ J;have G:=QP J;obtain⟨ve,H⟩:∃b,([al m 1,al m 2]==[0,0])=b:=⟨_,rfl⟩;obtain⟨me,I⟩:∃b,(sub m 3 4==[0,0,0,0])=b:=⟨_,rfl⟩;obtain⟨le,hle⟩:∃b,(sub m 7 64==an 64 0)=b:=⟨_,rfl⟩;have l:=af H;have u:=af I;have HLE:=af hle;rw[H] at E;rw[I] at F;rw[hle] at G;rw[E,F,G,Z.out] at c;clear H I hle E F G M;rcases L.out with h|h|h
     ·subst h;cases ve with
      |false=>go_wp2_with(first|((with_reducible refine dY (ty:=80) _ 1 ?_ ?_ _ d 2 ?_ _ (Gz.gu underlying80) ?_ jo ?_);exact rfl;exact rfl;omega;exact rfl;rw[K])|((with_reducible refine mK (t:=80) ?_ [al m 1,al m 2] [0,0] ?_ ?_ ?_ nt ?_);exact rfl;exact rfl;exact rfl;exact nC;rw[l.out]));(go_ret;refine⟨?_,p.out⟩;rw[c.out];rfl)
      |true=>cases me with|false=>go_wp2_with(first|((with_reducible refine dY (ty:=80) _ 1 ?_ ?_ _ d 2 ?_ _ (Gz.gu underlying80) ?_ jo ?_);exact rfl;exact rfl;omega;exact rfl;rw[K])|((with_reducible refine mK (t:=80) ?_ [al m 1,al m 2] [0,0] ?_ ?_ ?_ nt ?_);exact rfl;exact rfl;exact rfl;exact nC;rw[l.out])|((with_reducible refine dY (ty:=81) _ 3 ?_ ?_ _ d 4 ?_ _ (Gz.gu underlying81) ?_ mX ?_);exact rfl;exact rfl;omega;exact rfl)|((with_reducible refine mK (t:=81) ?_ (sub m 3 4) [0,0,0,0] ?_ ?_ ?_ pT ?_);exact rfl;exact rfl;exact rfl;exact qH (bP aa) rfl;rw[u.out]));(go_ret;refine⟨?_,p.out⟩;rw[c.out];rfl)|true=>go_wp2_with(first|((with_reducible refine dY (ty:=80) _ 1 ?_ ?_ _ d 2 ?_ _ (Gz.gu underlying80) ?_ jo ?_);exact rfl;exact rfl;omega;exact rfl;rw[K])|((with_reducible refine mK (t:=80) ?_ [al m 1,al m 2] [0,0] ?_ ?_ ?_ nt ?_);exact rfl;exact rfl;exact rfl;exact nC;rw[l.out])|((with_reducible refine dY (ty:=81) _ 3 ?_ ?_ _ d 4 ?_ _ (Gz.gu underlying81) ?_ mX ?_);exact rfl;exact rfl;omega;exact rfl)|((with_reducible refine mK (t:=81) ?_ (sub m 3 4) [0,0,0,0] ?_ ?_ ?_ pT ?_);exact rfl;exact rfl;exact rfl;exact qH (bP aa) rfl;rw[u.out])|((with_reducible refine dY (ty:=83) _ 7 ?_ ?_ _ d 64 ?_ _ (Gz.gu underlying83) ?_ uW ?_);exact rfl;exact rfl;omega;exact rfl)|((with_reducible refine mL (t:=83) ?_ (sub m 7 64) (an 64 0) ?_ ?_ ?_ RJ ?_);exact rfl;exact rfl;exact rfl;exact TB (bP aa) rfl;rw[HLE.out]));go_ret;refine⟨?_,p.out⟩;rw[c.out];simp
     ·subst h;cases me with|false=>go_wp2_with(first|((with_reducible refine dY (ty:=81) _ 3 ?_ ?_ _ d 4 ?_ _ (Gz.gu underlying81) ?_ mX ?_);exact rfl;exact rfl;omega;exact rfl)|((with_reducible refine mK (t:=81) ?_ (sub m 3 4) [0,0,0,0] ?_ ?_ ?_ pT ?_);exact rfl;exact rfl;exact rfl;exact qH (bP aa) rfl;rw[u.out]));(go_ret;refine⟨?_,p.out⟩;rw[c.out];rfl)|true=>go_wp2_with(first|((with_reducible refine dY (ty:=81) _ 3 ?_ ?_ _ d 4 ?_ _ (Gz.gu underlying81) ?_ mX ?_);exact rfl;exact rfl;omega;exact rfl)|((with_reducible refine mK (t:=81) ?_ (sub m 3 4) [0,0,0,0] ?_ ?_ ?_ pT ?_);exact rfl;exact rfl;exact rfl;exact qH (bP aa) rfl;rw[u.out]));(go_ret;refine⟨?_,p.out⟩;rw[c.out];rfl)
     ·subst h;cases ve with|false=>go_wp2_with(first|((with_reducible refine dY (ty:=80) _ 1 ?_ ?_ _ d 2 ?_ _ (Gz.gu underlying80) ?_ jo ?_);exact rfl;exact rfl;omega;exact rfl;rw[K])|((with_reducible refine mK (t:=80) ?_ [al m 1,al m 2] [0,0] ?_ ?_ ?_ nt ?_);exact rfl;exact rfl;exact rfl;exact nC;rw[l.out]));(go_ret;refine⟨?_,p.out⟩;rw[c.out];rfl)|true=>go_wp2_with(first|((with_reducible refine dY (ty:=80) _ 1 ?_ ?_ _ d 2 ?_ _ (Gz.gu underlying80) ?_ jo ?_);exact rfl;exact rfl;omega;exact rfl;rw[K])|((with_reducible refine mK (t:=80) ?_ [al m 1,al m 2] [0,0] ?_ ?_ ?_ nt ?_);exact rfl;exact rfl;exact rfl;exact nC;rw[l.out]));(go_ret;refine⟨?_,p.out⟩;rw[c.out];rfl)
 ·have c:Hid (df m=false):=OE v;have L:=af v;obtain⟨kd,f⟩:∃z,al m 0=z:=⟨_,rfl⟩;rw[f] at c0 L v;clear f v;go_enter Gz.gf func81,ntmps81;go_wp2;refine(Fg _ _ _ _ (by have:=L.out;omega)).mono ?_;rintro e w'⟨rfl,rfl⟩;go_wp2;go_ret;exact⟨by rw[c.out];rfl,T⟩
end
section
open Go.RowKit Go.WideShapes Go.ChangeShapes
def pF(xs:List Int)(k:Nat):sub xs (k*71) 71=aO xs k:=by unfold aO;rw[Nat.mul_comm]
def QR(b:xs.length=n*71)(c:k<n):xs[k*71]?.getD 0=al (aO xs k) 0:=by unfold al aO;rw[fP _ _ _ _ aq,Nat.mul_comm];rfl
def RK(h:df m=true):dN false m=true:=by unfold dN;rw[h];rfl
def RL(h:df m=true)(k:al m 0=2):dN true m=true:=by unfold dN;rw[h,k];rfl
def SV{i:Bool}(h:df m=false):dN i m=false:=by unfold dN;rw[h];rfl
def SW(k:al m 0≠2):dN true m=false:=by unfold dN;rw[show(al m 0==2)=false from beq_eq_false_iff_ne.2 k];simp
def PN{ap:Bool}(h:fR ap xs n=false):(ew ap xs n).getD []=[]:=by rw[QH h];rfl
def EU(ap:Bool)(m:List Int):0<(eU ap m).length:=by
 unfold eU;split
 ·simp
 ·have:0<(fD m 4).length:=by rw[show(4:Nat)=3+1 from rfl,Ef,aiw];unfold lH;rw[aiw,ki];have:=pB ((dm (lvl m 3)).length:Int);omega
  rw[aiw];omega
def Xp(ap:Bool)(n g c B:Nat)(xs:List Int)(w:ns)(h:az 85 71 w B (Y (some ⟨g,0,none⟩) n c) n xs)(h1:1<=n)(h4:n<=4):
  UL Gz.prog 55 #[Y (some ⟨g,0,none⟩) n c,a9 ap] w λe w'=>∃v',e=be v'/\aK w' w.heap.size v' ((ew ap xs n).getD []).length ((ew ap xs n).getD [])/\Q w w':=by
 have H:=af h;have C:=h.1;have L:(1:Int)<=n:=aa;have M:(n:Int)<=4:=aa;have q0:Q w (w.alloc (ac #[] 154)):=(Q.refl _).alloc _;have o0:=az.jT 154 2 w w.heap.size (au _);clear h;go_enter Gz.gf func55,ntmps55;go_wp2;refine(nX _ L M).mono ?_;rintro e w'⟨rfl,rfl⟩;go_wp2;have O0:=af o0;have Q0:=af q0;clear o0 q0;go_loopw[5,6] (λu i wr=>∃k cnt:Nat,k<=n/\i=U O k/\cnt<=5000*k/\Hid (az 154 2 wr w.heap.size u cnt (ju ap xs k)/\Q w wr/\fR ap xs k=true)) (λ_ i _=>n-(intOf i).toNat)
 case atStart=>exact⟨0,0,aa,rfl,aa,O0.out,Q0.out,rfl⟩
 case round=>
  obtain⟨k,cnt,hk,rfl,X',hK⟩:=hrel;obtain⟨k1,K,k3⟩:=hK.out;clear hK O0 Q0;have hl:=H.out.q K;have cC:=K.size;have l:=af k1;have K2:=af K;have D:=af k3;clear k1 K k3;by_cases aT:k<n
  ·have ka:(k:Int)<n:=by omega
   have p:=Q0.u4 C aT;have N:=X0 wr p;have c0:=hl.cell (k*71) aa;rw[QR C aT] at c0;obtain⟨kd,r⟩:∃z,al (aO xs k) 0=z:=⟨_,rfl⟩;rw[r] at c0;have f:=af r;obtain⟨bv,t⟩:∃z,df (aO xs k)=z:=⟨_,rfl⟩;rw[t] at N;have b:=af t;clear r t;have H0:=af c0;clear c0;go_wp2_with((with_reducible refine rC (ty:=85) _ (k*71) ?_ ?_ _ hl 71 ?_ _ (Gz.gu underlying85) ?_ fY ?_);exact rfl;exact rfl;omega;exact rfl;rw[pF]);refine N.mono ?_;rintro e w5⟨rfl,q5⟩;clear N;have hl:=hl.q q5;have c0:=hl.cell (k*71) aa;rw[QR C aT,f.out] at c0;cases bv with
   |false=>have HB:Hid (dN ap (aO xs k)=false):=SV b.out;exact Kl
   |true=>
    cases ap with
    |false=>have HB:Hid (dN false (aO xs k)=true):=RK b.out;have R:=af (PL false w5 (zV p b.out) λh=>by cases h);(go_wp2_with((with_reducible refine rC (ty:=85) _ (k*71) ?_ ?_ _ hl 71 ?_ _ (Gz.gu underlying85) ?_ fY ?_);exact rfl;exact rfl;omega;exact rfl;rw[pF]);refine R.out.mono ?_;rintro e w6⟨v6,E,rfl,S,j,v⟩;have F:=v.size;have G:=q5.size;have I:=l.out.q (q5.trans v);have J:=K2.out.trans (q5.trans v);have A:0<E:=(by have:=j.1;have:=EU false (aO xs k);omega);obtain⟨g6,c6,rfl⟩:=j.fS A;have hlen:=j.1;clear l K2 hl;have hl:=H.out.q J;go_wp2_with(at_builtin;go_loud (refine fN rfl rfl (Gz.gu underlying118) gJ rfl aq aq rfl I ⟨_,0,none⟩ _ _ rfl hlen ?_ ?_ j.src ?_;omega;omega;intro vz T V W));have X:Q w T:=bC.toQ W J (λg Z=>by have:=I.below g Z;omega);go_roundw;(case rel=>exact⟨k+1,cnt+E,aa,aH,aa,by rw[uP];exact V,X,by rw[Eh,D.out,HB.out];rfl⟩);(case measure=>simp[intOf];omega))
    |true=>
     by_cases d:kd=2
     ·have HB:Hid (dN true (aO xs k)=true):=RL b.out (f.out.trans d);have R:=af (PL true w5 (zV p b.out) λ_=>f.out.trans d);subst d;(go_wp2_with((with_reducible refine rC (ty:=85) _ (k*71) ?_ ?_ _ hl 71 ?_ _ (Gz.gu underlying85) ?_ fY ?_);exact rfl;exact rfl;omega;exact rfl;rw[pF]);refine R.out.mono ?_;rintro e w6⟨v6,E,rfl,S,j,v⟩;have F:=v.size;have G:=q5.size;have I:=l.out.q (q5.trans v);have J:=K2.out.trans (q5.trans v);have A:0<E:=(by have:=j.1;have:=EU true (aO xs k);omega);obtain⟨g6,c6,rfl⟩:=j.fS A;have hlen:=j.1;clear l K2 hl;have hl:=H.out.q J;go_wp2_with(at_builtin;go_loud (refine fN rfl rfl (Gz.gu underlying118) gJ rfl aq aq rfl I ⟨_,0,none⟩ _ _ rfl hlen ?_ ?_ j.src ?_;omega;omega;intro vz T V W));have X:Q w T:=bC.toQ W J (λg Z=>by have:=I.below g Z;omega);go_roundw;(case rel=>exact⟨k+1,cnt+E,aa,aH,aa,by rw[uP];exact V,X,by rw[Eh,D.out,HB.out];rfl⟩);(case measure=>simp[intOf];omega))
     ·have HB:Hid (dN true (aO xs k)=false):=SW (by rw[f.out];exact d);have ah1:(kd !=2)=true:=by simp[d]
      exact Kl
  ·have j':k=n:=by omega
   rw[j'] at l D;have hlen:=l.out.1;obtain⟨r1,r2⟩:=vl C D.out n (au _);have HS:=ET (ap:=ap) C h1 h4;rw[if_pos D.out] at HS;have Is:=af HS
   have tA:0<cnt:=by exact LS
   obtain⟨gz,cz,rfl⟩:=l.out.fS tA;have HE:=XY l.out r1.ok aa;clear HS aT hl;go_wp2;refine HE.mono ?_;rintro e w5⟨v5,rfl,o5,q5⟩;go_wp2;go_ret;refine⟨_,rfl,?_,K2.out.trans q5⟩;rw[Is.out];exact o5.mono cC
end
section
open Go.RowKit Go.WideShapes Go.ChangeShapes Go.Shelf
attribute [local go_sem] Oper.semAt_some
def qi(r:Int×Int):Array rl:=#[a5 #[U O r.1,U O r.2]]
def Q.ade{w':ns}(h:Q w w'):w.grownBy w' none:=⟨h.os,h.tape,h.output,h.size,λk b _=>h.block k b⟩
def Nb.below{t:EV}{n g B:Nat}{w w':ns}{xs:List Int}(h:Nb t n w g xs)(k:Below B w w')(b:g<B):Nb t n w' g xs:=⟨(k.block g b).trans h.blk,h.len⟩
def Kb(b:Nat)(W c:ns):Prop:=c.heap[b]?=W.heap[b]?
def Kb.t{b:Nat}{A B C:ns}(h:Kb b A B)(k:Kb b B C):Kb b A C:=Eq.trans k h
def Kb.b{b:Nat}(d:b<w.heap.size)(W:ns)(l:Nat)(o c:Obj)(e:w.heap.size<=l)(_:W.heap[l]?=some o)(_:o.isCells=false)(_:o.isWalk=false):Kb b W (W.putObj l c):=World.putObj_heap_other aa
def Kb.dQ{b:Nat}{W c:ns}{row:Option Nat}(h:W.grownBy c row)(d:b<W.heap.size)(hr:row≠some b):Kb b W c:=h.block b d (λe=>hr e.symm)
def Nb.kb{t:EV}{w':ns}(h:Nb t n w g xs)(k:Kb g w w'):Nb t n w' g xs:=⟨Eq.trans k h.blk,h.len⟩
def ak.own{g:Nat}{t:EV}{cs:Array rl}{w w':ns}{row:Option Nat}(h:ak w g t cs)(c:w.grownBy w' row)(hr:∀r,row=some r->∃o:Obj,w.heap[r]?=some o/\o.isCells=false):ak w' g t cs:=
 h.grown c λe=>by obtain⟨o,b,hc⟩:=hr g e.symm;rw[show w.heap[g]?=_ from h] at b;cases b;cases hc
def SY(hn:1<=n)(l b:Nat)(xs:List Int)(J E:List (Int×Int)->ns->Prop)(W:ns)
  (M:AbidesFrom W.heap.size J)(N:∀pre x W,J pre W->pre++[x]<+:dm xs->YieldAt Fence.wide (n-1) Gz.prog l (qi x) W λe j=>(e=be (a9 true)/\J (pre++[x]) j/\Kb b W j)\/(e=be (a9 false)/\E (pre++[x]) j))
  (Q:Nb 82 16 W b xs)(h0:J [] W):
  CallsIn Fence.wide n Gz.prog 181 #[.func (.yield l) #[] #[],ci (some ⟨b,0,none⟩)] W λe j=>(∃v,e=be v)/\
   ((∃ys,ys=dm xs/\J ys j)\/(∃pre,pre<+:dm xs/\E pre j)):=by
 have R:=af M;have S:=af N;have T:=af h0;have V:=af Q;refine callsIn_of_wp (Gz.gf func181) rfl trivial ?_ rfl;simp only[ntmps181,List.size_toArray,aiS,akc,ajp,Nat.reduceSub,akH,akI,List.push_toArray,akZ,ajM,ajn]
 gi_wp2
 refine⟨trivial,?_⟩;refine(callsIn_wide.2 Ou).mono ?_;rintro e w1⟨rfl,q1⟩
 gi_wp2
 have hs:=q1.size;have X:=af (R.out _ _ _ none T.out q1.ade λr e=>by cases e);have Z:=af (V.out.q q1);have B:=zv
 gi_loopw[3,8] (λz i wr=>∃(k d:Nat)(pre:List (Int×Int)),k<=16/\i=U O k/\z=U O d/\d<=k/\Hid (Nb 82 16 wr b xs/\J pre wr/\dm xs=pre++ia ((lk xs).drop k) d)) (λ_ i _=>16-(intOf i).toNat)
 case atStart=>exact⟨0,0,[],aa,rfl,rfl,aa,Z.out,X.out,by simp[dm]⟩
 case round=>
  obtain⟨k,d,pre,hk,rfl,rfl,hz,hK⟩:=hrel;obtain⟨F,G,c⟩:=hK.out;by_cases f:k<16
  ·have ka:(k:Int)<16:=by omega
   have he:=λw=>rq kE B f w;rw[zS f] at he;rw[NF xs f,ia] at c;have H:=sC k f;generalize gF[k]?.getD 0=t at he c H;have H7:(t:Int)<16:=aa;have c2:=F.at t H;generalize xs[t]?.getD 0=x at c2 c;have hzi:(d:Int)<=16:=aa;have I:=af F;have K:=af G;by_cases h:x=0
   ·rw[if_pos h] at c;have p:=af c;subst h
    gi_wp2
    go_roundw;case rel=>exact⟨k+1,d+1,pre,aa,aH,aH,aa,I.out,K.out,p.out⟩
    case measure=>exact bg
   ·rw[if_neg h] at c;have hlen:pre++[((d:Int),x)]<+:dm xs:=⟨_,by rw[c,aiK];rfl⟩;obtain⟨fn,tmps,assign,body,L,hR⟩:=S.out pre ((d:Int),x) wr K.out hlen;unfold qi at L;dsimp only at L;have p:=af c;have qE:(x==0)=false:=by simp[h]
    gi_wp2
    refine hR.mono ?_;rintro e W3(⟨rfl,C,D⟩|⟨rfl,u⟩)
    ·gi_wp2
     go_roundw;case rel=>exact⟨k+1,0,pre++[((d:Int),x)],aa,aH,rfl,aa,I.out.kb D,C,by rw[p.out];simp⟩
     case measure=>exact bg
    ·gi_wp2
     refine bodyPost_ret (results_none rfl _ _ _) rfl ?_;exact⟨⟨_,rfl⟩,.inr ⟨_,by rw[p.out];exact⟨_,by rw[aiK];rfl⟩,u⟩⟩
  ·have A:k=16:=by omega
   subst A;rw[List.drop_of_length_le (by rw[Ea];omega),ia,List.append_nil] at c;have p:=af c
   gi_wp2
   go_end0
   exact⟨⟨_,rfl⟩,.inl ⟨pre,p.out.symm,G⟩⟩
def YO(n:Nat)(d:1<=n){b:Nat}(c:Nb 82 16 w b xs):
  SeqStopsK Fence.wide n Gz.prog 181 #[ci (some ⟨b,0,none⟩)] qi (Kb b) (λys=>ys=dm xs) (λpre=>pre<+:dm xs) (dm xs).length w:=λl J e W f h _ i h0=>
 SY d l b xs J e W h (λpre x W j p=>i pre x W j (by have:=p.length_le;rw[aiw,List.length_singleton] at this;omega)) (c.below f c.lt) h0
def RN(c:xs.length=16):
  UL Gz.prog 163 #[a5 (arr xs)] w λe w'=>∃b,e=be (.func (.func 181) #[] #[ci (some ⟨b,0,none⟩)])/\w.heap.size<=b/\b<w'.heap.size/\Nb 82 16 w' b xs/\Q w w':=by
 have d:=Nb.new 82 16 w xs c;have f:Q w (w.alloc (ac (arr xs) 82)):=(Q.refl w).alloc _;go_enter Gz.gf func163,ntmps163;go_wp2;go_ret;exact⟨_,rfl,au _,aj,d,f⟩
def FP{b:Nat}{W:ns}(v:rl)(h:b≠g):Kb b W (W.setCell ⟨g,0,none⟩ v):=iI W ⟨g,0,none⟩ v b h
def Xq(d:xs.length=16):
  UL Gz.prog 162 #[a5 (arr xs)] w λe w'=>e=be (U O ((dm xs).length:Int))/\Q w w':=by
 have s1:=bO xs;rw[d] at s1;have z:=(Nb.new 82 16 w xs d).alloc (ac #[U O 0] 3);have u:=ak.new (w.alloc (ac (arr xs) 82)) 3 #[U O 0];rw[BE] at u;have C:Q w ((w.alloc (ac (arr xs) 82)).alloc (ac #[U O 0] 3)):=((Q.refl w).alloc _).alloc _;have v:=Ec xs;refine(callsIn_wide (n:=3)).1 ?_;refine callsIn_of_wp_marks (Gz.gf func162) rfl trivial ?_ rfl;simp only[ntmps162,List.size_toArray,aiS,akc,ajp,Nat.reduceSub,akH,akI,List.push_toArray,akZ,ajM,ajn];refine wpIn_wide.2 ?_;go_wp2_with((with_reducible refine eQ (n:=16) rfl _ _ rfl _ rfl _ z _ (Gz.gu underlying82) rfl cL ?_));refine(RN d).mono ?_;rintro e I⟨b,rfl,f,i,E,q1⟩;simp only[BE] at f;have j:=u.q q1;have p:=C.trans q1;go_wp2
 refine wpIn_wide.1 (wpIn_rangeFunc_ownG (n:=3) rfl aq (gf:=181) (lb:=#[ci (some ⟨b,0,none⟩)]) rfl trivial (Gz.cl 181)
  (YO 2 aq E) Kb.t (Kb.b i) (Below.refl _ _) (λ_=>rfl)
  (λpre W=>ak W (w.heap.size+1) 3 #[U O (pre.length:Int)]/\Q w W)
  (λ_ _ _=>False)
  (OwnFrom.and (Own.from (λs A B row r F G=>r.own F G) _) (ownFrom_below (au _) p.size))
  (λ_ _ _ _ _ r _ _=>r)
  ⟨j,p⟩
  (λx=>{tmps:=#[a5 (arr xs),ci (some ⟨w.heap.size,0,none⟩),U O 0,ci (some ⟨w.heap.size+1,0,none⟩),a5 (arr xs),.func (.func 181) #[] #[ci (some ⟨b,0,none⟩)],a5 #[U O x.1,U O x.2],undef,undef,undef],defers:=[]}) ?assign ?body ?done ?stop)
 case assign=>
  intro l x W K hK;unfold qi
  gi_wp2
  simpa using hK
 case body=>
  rintro l pre x W⟨hc,hq⟩ H;have c0:=hc.cell 0;have f0:=hc.free 0;have c0:=c0
  gi_wp2
  refine⟨(uC _ _ _).from _,FP _ aa,?_,hq.set aj _⟩;have:=hc.set 0 (U O ((pre.length:Int)+1));simpa using this
 case done=>rintro D ys W J rfl⟨hc,hq⟩ hK;have c0:=hc.cell 0;go_wp2;refine⟨aj,.inl ⟨_,_,rfl,run_takeDeferred hK,?_⟩⟩;exact⟨_,results_tmp rfl _ _ _,rfl,Below.trans hq (belowK_b (w:=w) (au _) W D _ _ (by have:=p.size;omega) hK rfl rfl)⟩
 case stop=>rintro D c pre W _ _ h _;exact h.elim
end
end Go.Proofs.Q0
