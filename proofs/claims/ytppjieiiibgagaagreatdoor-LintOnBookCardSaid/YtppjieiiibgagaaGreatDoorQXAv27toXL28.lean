/-
  ABSTRACT VALUES, 27: append into cells of one's own, asked in closed facts.
-/
import Derived.Test.YtppjieiiibgagaaGreatDoorQXAv26toXGlob
import Derived.Test.YtppjieiiibgagaaGreatDoorQXC1
import Derived.Test.YtppjieiiibgagaaGreatDoorQXC2
import Derived.Test.YtppjieiiibgagaaGreatDoorQXC3toXL2
import Derived.Test.YtppjieiiibgagaaGreatDoorQXL13toXL15
import Derived.Test.YtppjieiiibgagaaGreatDoorQXE8toXE10
import Derived.Test.YtppjieiiibgagaaGreatDoorQXL19toXL25
import Derived.Lib.Join
set_option linter.all false
namespace Go.Av
open Go Go.RowKit List
section
variable {G:Glob} {P:Program} {σ ρ:Store} {w:World} {env:Env} {K:AV->Store->Prop}
def bZ {t Y e e':TypeId} {sz bytes:Nat} {x y:Operand} {rows ys:List (List AV)} {g:Option Nat} {xv:AV}
  (hu:P.underlying t=some (.slice e)) (hk:P.underlying Y=some (.slice e')) (hi:(P.info? e).map (λi=>(i.size,i.bytes))=some (sz,bytes)) (hz:(da P e).map List.length=some sz) (E:sz≠0) (F:bytes≠0)
  (N:(SOpd.of x).eval G env=xv) (Z:WS σ e sz xv rows g) (O:srcX sz ((SOpd.of y).eval G env) λl=>l=ys) (D:(rows.length+ys.length)*bytes<=140737488355328)
  (J:rows=[]->ys=[]->K xv σ)
  (M:∀b cap pad,b∉(σ.erase g).keys->(rows++ys).length<=cap->cap<=maxLen->(∀r∈rows++ys,r.length=sz)->((rows++ys).flatten++pad).length=cap*sz->
   K (.sc (.slice (some ⟨b,0,none⟩) (rows++ys).length cap)) ((b,.cells e ((rows++ys).flatten++pad))::σ.erase g)):RAW G P (.call (.mk (.builtin .append) #[x,y] #[t,Y])) env σ K ⟨⟩:=by
 obtain⟨i,I,X⟩:=Option.map_eq_some_iff.1 hi
 obtain⟨z,T,V⟩:=Option.map_eq_some_iff.1 hz
 simp only[Prod.mk.injEq]at X
 obtain⟨rfl,rfl⟩:=X
 exact pn (ty:=0) hu hk I T V E F N Z O D J M
end
end Go.Av
namespace Go.Av
open Go Go.RowKit Go.Proofs List
def jw (l:List Wd):∀r∈l.map Wd.cs,r.length=4:=by
 intro r D;obtain⟨w,_,rfl⟩:=mem_map.1 D;rfl
def jz (l:List U):∀r∈l.map U.cs,r.length=8:=by
 intro r D;obtain⟨w,_,rfl⟩:=mem_map.1 D;exact ra w
def eX {e:TypeId} {sz:Nat} {v:Value} (h:l5 v):bW e sz [] (.sc v) []:=by
 rcases h with rfl|⟨a,rfl⟩
 ·exact⟨none,0,rfl,.inl ⟨rfl,rfl,rfl⟩⟩
 ·exact⟨some a,0,rfl,.inl ⟨rfl,rfl,rfl⟩⟩
def RET.le {x y:AV} {R:AV->Store->Prop} {σ σ':Store} (D:AVle x y) (E:SubN σ' σ) (h:R y σ'):RET x σ R:=⟨y,σ',D,E,h⟩
def rQ {x:AV} {R:AV->Store->Prop} {σ σ':Store} (D:SubN σ' σ) (h:R x σ'):RET x σ R:=⟨x,σ',rW _,D,h⟩
section
variable (G:Glob)
def f65 (l:List Wd) (Z:l.length<1000000):aj G Tryz.prog 65 [.lst 4 (l.map Wd.cs)] [] (λr σ=>bW 118 4 (l.map Wd.cs) r σ):=by
 obtain⟨rows,D⟩:∃rows,l.map Wd.cs=rows:=⟨_,rfl⟩
 have O:rows.length=l.length:=by rw[←D,length_map]
 have V:∀r∈rows,r.length=4:=by rw[←D];exact jw l
 rw[D];refine aj.w c65 ?_;unfold s65 r65;simp only[EV1,EV2,EV3,EV4,EV5,Option.map_some,decide_true,decide_false,seval,eq_self];intro X F;refine ae (λh=>?_) (λh=>?_)
 ·simp only[EV1,EV2,EV3,EV4,EV5,Option.map_some,decide_true,decide_false,seval,eq_self]
  have E:rows=[]:=by
   rcases Classical.em (rows=[])with h1|h1
   ·exact h1
   ·rw[F h1]at h;cases h
  subst E;exact RET.le (y:=.sc (.slice none 0 0)) (Or.inl (Or.inr rfl)) (SubN.refl _) (eX (.inl rfl))
 ·simp only[EV1,EV2,EV3,EV4,EV5,Option.map_some,decide_true,decide_false,seval,eq_self];refine g9 (e:=118) (n:=4) (by kernel_rfl) (by kernel_rfl) (λv T=>?_);simp only[EV1,EV2,EV3,EV4,EV5,Option.map_some,decide_true,decide_false,seval,↓reduceIte,eq_self];refine bZ (e:=118) (e':=118) (sz:=4) (bytes:=40) (rows:=[]) (ys:=rows) (g:=none) (xv:=.sc v) (by kernel_rfl) (by kernel_rfl) (by kernel_rfl) (by kernel_rfl) (by decide) (by decide) rfl (.inl ⟨rfl,rfl,.inr ⟨v,rfl,T⟩⟩) ?_ ?_ ?_ ?_
  ·exact⟨rfl,rfl⟩
  ·simp;omega
  ·intro _ E;simp only[EV1,EV2,EV3,EV4,EV5,Option.map_some,decide_true,decide_false,seval,eq_self];subst E;exact rQ (SubN.refl _) (eX T)
  ·intro b cap pad Y J I N M;simp only[EV1,EV2,EV3,EV4,EV5,Option.map_some,decide_true,decide_false,seval,eq_self];simp only[nil_append]at*;exact rQ (SubN.refl _) ⟨_,_,rfl,.inr ⟨b,pad,rfl,rfl,J,I,N,M⟩⟩
end
def cA {σ τ:Store} (h:(σ++τ:Store).keys.Nodup) {b:Nat} (D:b∈τ.keys):b∉σ.keys:=by
 rw[aC]at h;exact λE=>(nodup_append.1 h).2.2 b E b D rfl
def lh {σ τ:Store} (h:(σ++τ:Store).keys.Nodup):τ.keys.Nodup:=by
 rw[aC]at h;exact(nodup_append.1 h).2.1
def mm (u:U) (r:AV) (σ:Store):Prop:=
 ∃I N D M O F J ck E,r= .agg [.i u.id.act,.i u.id.item,.i u.id.n,.i u.kind,.str u.label,.sc (.slice I u.head.length N),.sc (.slice M u.words.length O),.sc (.slice J u.kids.length ck)]/\
  σ=E++(F++D)/\gK 118 4 (u.head.map Wd.cs) I N D/\gK 118 4 (u.words.map Wd.cs) M O F/\gK 27 8 (u.kids.map U.cs) J ck E
def mm.freeze {G:Glob} {P:Program} {k:FuncId} {args:List AV} {u:U} (h:aj G P k args [] (mm u)):Pure G P k args (.agg u.cs):=by
 refine aj.freeze (aj.mono h ?_);rintro r σ' ⟨I,N,D,M,O,F,J,ck,E,rfl,rfl,T,V,X⟩;refine⟨_,rfl,?_⟩;rw[hH]
 refine⟨.inl rfl,.inl rfl,.inl rfl,.inl rfl,.inl rfl,.inr ⟨_,_,_,D,⟨I,N,by simp,T⟩,?_,rfl⟩,.inr ⟨_,_,_,F,⟨M,O,by simp,V⟩,?_,rfl⟩,.inr ⟨_,_,_,E,⟨J,ck,by simp,X⟩,?_,rfl⟩,trivial⟩<;>
 ·intro p Y;simp only[mem_append];simp[Y]
abbrev KS:=Option (Nat×Nat×List AV)
def kAV (c:KS) (n:Nat):AV:=match c with
 |none=>.nil
 |some (b,cap,_)=>.sc (.slice (some ⟨b,0,none⟩) n cap)
def kSt (c:KS) (rows:List (List AV)):Store:=match c with
 |none=>[]
 |some (b,_,pad)=>[(b,.cells 27 (rows.flatten++pad))]
def kOk (c:KS) (rows:List (List AV)):Prop:=match c with
 |none=>rows=[]
 |some (b,cap,pad)=>rows.length<=cap/\cap<=maxLen/\(∀r∈rows,r.length=8)/\(rows.flatten++pad).length=cap*8
def kWS {c:KS} {rows:List (List AV)} (h:kOk c rows):WS (kSt c rows) 27 8 (kAV c rows.length) rows (c.map (·.1)):=by
 cases c with
 |none=>exact .inl ⟨h,rfl,.inl rfl⟩
 |some p=>
  obtain⟨b,cap,pad⟩:=p;obtain⟨D,E,F,I⟩:=h;exact .inr ⟨b,cap,pad,rfl,rfl,by simp[kSt,Store.get],F,I,D,E⟩
def kErase (c:KS) (rows:List (List AV)):(kSt c rows).erase (c.map (·.1))=[]:=by
 cases c with
 |none=>rfl
 |some p=>obtain⟨b,cap,pad⟩:=p;simp[kSt,Store.erase]
def kS {c:KS} {rows:List (List AV)} (h:kOk c rows):∃D cap,aH (kAV c rows.length) (.sc (.slice D rows.length cap))/\gK 27 8 rows D cap (kSt c rows):=by
 cases c with
 |none=>
  have h:rows=[]:=h;subst h;exact⟨none,0,.inr rfl,.inl ⟨rfl,rfl,rfl⟩⟩
 |some p=>
  obtain⟨b,cap,pad⟩:=p;obtain⟨E,F,I,J⟩:=h;exact⟨some ⟨b,0,none⟩,cap,.inl rfl,.inr ⟨b,pad,rfl,rfl,E,F,I,J⟩⟩
section
variable (G:Glob)
set_option maxHeartbeats 2000000 in
def f63:∀(u:U),u.Short->aj G Tryz.prog 63 [.agg u.cs] [] (mm u):=by
 refine U.ind λu ih hs=>?_;have h0:=hs.2 u u.flat_self;have ds:=hs.1.kids;have bs:=f65 G u.head h0.2.1;have bx:=f65 G u.words h0.2.2.1;rw[hH u];refine aj.w c63 ?_;unfold s63 r63;(try simp only[EV,seval]);intro X dc Y bd
 have F:¬X=Y:=by simp only[EVK]at bd;exact λe=>bd e.symm
 have M:¬Y=X:=λe=>F e.symm;(repeat' (first|simp only[EV,seval,F,M]|(with_reducible refine ag ?_ ?_)))
 all_goals(
  refine aB [] _ bs.v (hU _) (SubN.refl _) ?_
  rintro _ O ⟨bh,ch,rfl,cm⟩ ah
  have D:X∉O.keys:=cA ah (by simp[Store.keys])
  have E:Y∉O.keys:=cA ah (by simp[Store.keys])
  (try simp only[EV,seval,ao D,ao E,ar D,ar E,F,M])
  refine aB [] _ bx.v (hU _) (SubN.refl _) ?_
  rintro _ T ⟨bw,cw,rfl,cp⟩ V
  have I:X∉T.keys:=cA V (by simp[Store.keys])
  have J:Y∉T.keys:=cA V (by simp[Store.keys])
  (try simp only[EV,seval,ao D,ao E,ar D,ar E,ao I,ao J,ar I,ar J,F,M,append_eq]))
 all_goals(
  refine ai ?_
  (try simp only[EV,seval,ao D,ao E,ar D,ar E,ao I,ao J,ar I,ar J,F,M,append_eq])
  have bm:Store.keys (T++(O++[(Y,AObj.cells 27 [.i 0,.i 0,.i 0,.i 0,.str [],.nil,.nil,.nil]),(X,AObj.cells 27 [.i u.id.act,.i u.id.item,.i u.id.n,.i u.kind,.str u.label,.sc (.slice bh u.head.length ch),.sc (.slice bw u.words.length cw),.lst 8 (u.kids.map U.cs)])]))|>.Nodup:=by
   simp only[append_eq]at V
   simpa[Store.keys]using V
  refine ap (ι:=KS) u.kids (λi r c=>kOk c ((u.kids.take i).map U.cs)/\(Store.keys (kSt c ((u.kids.take i).map U.cs)++(T++(O++[(Y,AObj.cells 27 [.i 0,.i 0,.i 0,.i 0,.str [],.nil,.nil,.nil]),(X,AObj.cells 27 [.i u.id.act,.i u.id.item,.i u.id.n,.i u.kind,.str u.label,.sc (.slice bh u.head.length ch),.sc (.slice bw u.words.length cw),.lst 8 (u.kids.map U.cs)])])))).Nodup)
   (λi c=>[(1,.p X),(2,.p Y),(3,kAV c i),(15,.lst 8 (u.kids.map U.cs)),(16,.i u.kids.length),(17,.i i)])
   (λi c=>kSt c ((u.kids.take i).map U.cs)++(T++(O++[(Y,AObj.cells 27 [.i 0,.i 0,.i 0,.i 0,.str [],.nil,.nil,.nil]),(X,AObj.cells 27 [.i u.id.act,.i u.id.item,.i u.id.n,.i u.kind,.str u.label,.sc (.slice bh u.head.length ch),.sc (.slice bw u.words.length cw),.lst 8 (u.kids.map U.cs)])]))) none ⟨rfl,bm⟩ (dT _ _) (by omega) (λi x r c aa N hw=>?_) (λc aa hn=>?_)
  ·have al:((u.kids.take i).map U.cs).length=i:=by rw[length_map,length_take];have:=N.lt;omega
   have bo:=kWS aa.1
   rw[al]at bo
   (try simp only[EV,seval,N.yes,N.le0,N.lt',N.row,hw,N.get,ao D,ao E,ar D,ar E,ao I,ao J,ar I,ar J,F,M,append_eq])
   intro b5 dd
   (try simp only[EV,seval,N.yes,N.le0,N.lt',N.row,hw,N.get,ao D,ao E,ar D,ar E,ao I,ao J,ar I,ar J,F,M,append_eq])
   refine ab (mm.freeze (ih x N.mem (hs.kid N.mem))) ?_
   (try simp only[EV,seval,N.yes,N.le0,N.lt',N.row,hw,N.get,ao D,ao E,ar D,ar E,ao I,ao J,ar I,ar J,F,M,append_eq])
   intro b6 dl
   refine⟨[x.cs],rfl,by simp[ra],by simp,?_⟩
   (try simp only[EV,seval,ao D,ao E,ar D,ar E,ao I,ao J,ar I,ar J,F,M,append_eq])
   refine mo (kSt c ((u.kids.take i).map U.cs)) (T++(O++[(Y,AObj.cells 27 [.i 0,.i 0,.i 0,.i 0,.str [],.nil,.nil,.nil]),(X,AObj.cells 27 [.i u.id.act,.i u.id.item,.i u.id.n,.i u.kind,.str u.label,.sc (.slice bh u.head.length ch),.sc (.slice bw u.words.length cw),.lst 8 (u.kids.map U.cs)])])) (((SubN.refl _).tail _).tail _) ?_
   refine bZ (e:=27) (e':=27) (sz:=8) (bytes:=120) (rows:=(u.kids.take i).map U.cs) (ys:=[x.cs]) (g:=c.map (·.1)) (xv:=kAV c i) (by kernel_rfl) (by kernel_rfl) (by kernel_rfl) (by kernel_rfl) (by decide) (by decide) rfl bo ⟨rfl,rfl⟩ (by rw[al];simp only[length_cons,length_nil];have:=N.lt;omega) (λ_ h=>by cases h) (λb cap pad hb Z d0 d3 d1 be=>?_)
   rw[kErase]at be ⊢
   have an:((u.kids.take i).map U.cs++[x.cs]).length=i+1:=by rw[length_append,al];rfl
   have aw:(u.kids.take (i+1)).map U.cs=(u.kids.take i).map U.cs++[x.cs]:=by rw[N.take];simp
   (try simp only[EV,seval,hw,an,ao D,ao E,ar D,ar E,ao I,ao J,ar I,ar J,F,M,append_eq])
   refine ak N (some (b,cap,pad)) ⟨?_,?_⟩ ?_
   ·rw[aw];exact⟨Z,d0,d3,d1⟩
   ·rw[aw];exact be
   ·rw[aw];exact dT _ _
  ·rw[take_length]at aa ⊢
   obtain⟨bk,ck,Z,d2⟩:=kS aa.1
   rw[length_map]at Z
   have bn:=aa.2
   have ac:X∉(kSt c (u.kids.map U.cs)).keys:=cA bn (by simp[Store.keys])
   have ad:Y∉(kSt c (u.kids.map U.cs)).keys:=cA bn (by simp[Store.keys])
   have bb:∀v:AV,aH v (.sc (.slice bk u.kids.length ck))->RET (.agg [.i u.id.act,.i u.id.item,.i u.id.n,.i u.kind,.str u.label,.sc (.slice bh u.head.length ch),.sc (.slice bw u.words.length cw),v])
     (kSt c (u.kids.map U.cs)++(T++(O++[(Y,AObj.cells 27 [.i u.id.act,.i u.id.item,.i u.id.n,.i u.kind,.str u.label,.sc (.slice bh u.head.length ch),.sc (.slice bw u.words.length cw),v]),(X,AObj.cells 27 [.i u.id.act,.i u.id.item,.i u.id.n,.i u.kind,.str u.label,.sc (.slice bh u.head.length ch),.sc (.slice bw u.words.length cw),v])]))) (mm u):=λv hv=>
    RET.le (y:=.agg [.i u.id.act,.i u.id.item,.i u.id.n,.i u.kind,.str u.label,.sc (.slice bh u.head.length ch),.sc (.slice bw u.words.length cw),.sc (.slice bk u.kids.length ck)])
     (.inr ⟨.inl rfl,.inl rfl,.inl rfl,.inl rfl,.inl rfl,.inl rfl,.inl rfl,hv,trivial⟩) (sO (sO tC)) ⟨bh,ch,O,bw,cw,T,bk,ck,_,rfl,rfl,by simpa using cm,by simpa using cp,by simpa using d2⟩
   rcases c with _|⟨b,cap,pad⟩
   ·simp only[kAV]at*
    (try simp only[EV,seval,hn,ao ac,ao ad,ar ac,ar ad,ao D,ao E,ar D,ar E,ao I,ao J,ar I,ar J,F,M,append_eq])
    exact bb _ Z
   ·simp only[kAV]at*
    (try simp only[EV,seval,hn,ao ac,ao ad,ar ac,ar ad,ao D,ao E,ar D,ar E,ao I,ao J,ar I,ar J,F,M,append_eq])
    exact bb _ Z)
end
def oK {α:Type} {g:α->α} {f:α->List AV} {l:List α} {i:Nat} {x:α} {r:List α} (D:Rest l i x r):(((l.take i).map g++l.drop i).map f).length=l.length:=by
 simp;have:=D.lt;omega
def jF {α:Type} {g:α->α} {f:α->List AV} {l:List α} {i:Nat} {x:α} {r:List α} (D:Rest l i x r):(((l.take (i+1)).map g++l.drop (i+1)).map f).length=l.length:=by
 simp;have:=D.lt;omega
def kQ {α:Type} {g:α->α} {f:α->List AV} {l:List α} {i:Nat} {x:α} {r:List α} (D:Rest l i x r) (hi:i<(((l.take i).map g++l.drop i).map f).length):(((l.take i).map g++l.drop i).map f)[i]=f x:=by
 have E:=D.lt;have F:=D.get x;rw[getElem_map,getElem_append_right (by simp;omega)];simp only[length_map,length_take,getElem_drop];congr 1
 have e:i+(i-min i l.length)=i:=by omega
 simp only[e];simpa[E]using F
def oj {α:Type} {g:α->α} {f:α->List AV} {l:List α} {i:Nat} {x:α} {r:List α} (D:Rest l i x r):(((l.take i).map g++l.drop i).map f).set i (f (g x))=((l.take (i+1)).map g++l.drop (i+1)).map f:=by
 have E:=D.lt;rw[map_append,set_append_right _ _ (by simp;omega)]
 have e:i-(List.map f (List.map g (List.take i l))).length=0:=by simp;omega
 rw[e,D.take,map_append,map_append,map_append]
 have F:l.drop i=x::l.drop (i+1):=by
  rw[drop_eq_getElem_cons E];congr 1;simpa[E]using D.get x
 rw[F];simp
def pd {l:List Wd} {i:Nat} {x:Wd} {r:List Wd} (D:Rest l i x r):(((l.take i).map Wd.bare++l.drop i).map Wd.cs).length=l.length:=oK D
def iu {l:List Wd} {i:Nat} {x:Wd} {r:List Wd} (D:Rest l i x r):(((l.take (i+1)).map Wd.bare++l.drop (i+1)).map Wd.cs).length=l.length:=jF D
def ny {l:List Wd} {i:Nat} {x:Wd} {r:List Wd} (D:Rest l i x r) (hi:i<(((l.take i).map Wd.bare++l.drop i).map Wd.cs).length):
  (((l.take i).map Wd.bare++l.drop i).map Wd.cs).set i (aJ (((l.take i).map Wd.bare++l.drop i).map Wd.cs)[i] 1 [.i 0,.i 0,.i 0])=(((l.take (i+1)).map Wd.bare++l.drop (i+1)).map Wd.cs):=by
 rw[kQ D hi,←oj D]
 rfl
def qE {l:List U} {i:Nat} {x:U} {r:List U} (D:Rest l i x r) (hi:i<(((l.take i).map U.strip++l.drop i).map U.cs).length):
  (((l.take i).map U.strip++l.drop i).map U.cs).set i (aJ (((l.take i).map U.strip++l.drop i).map U.cs)[i] 0 x.strip.cs)=(((l.take (i+1)).map U.strip++l.drop (i+1)).map U.cs):=by
 rw[kQ D hi,←oj D]
 congr 1
 rw[bg _ _ _ (by rw[ra,ra];omega),ra,drop_of_length_le (by rw[ra];omega)]
 simp
def la {a b c d:Store}:List.Perm (c++(a++(b++d))) (a++(b++(c++d))):=by
 have D:List.Perm (c++(a++(b++d))) ((a++b)++(c++d)):=by
  rw[←append_assoc a b d];exact perm_append_comm_assoc c (a++b) d
 rwa [append_assoc]at D
def jQ {a b c:Store}:List.Perm (b++(a++c)) (a++(b++c)):=perm_append_comm_assoc b a c
section
variable (G:Glob)
set_option maxHeartbeats 4000000 in
def f385:∀(u:U),u.Short->Pure G Tryz.prog 385 [.agg u.cs] (.agg u.strip.cs):=by
 refine U.ind λu ih hs=>mm.freeze ?_;have h0:=hs.2 u u.flat_self;have fl:=hs.1.kids;have ex:=h0.2.1;have ft:=h0.2.2.1;have hC:=f63 G u hs;rw[hH u]at hC ⊢;refine aj.w c385 ?_;unfold s385 r385;(try simp only[EV,seval]);intro M ew N e3
 have F:¬M=N:=by simp only[EVK]at e3;exact λe=>e3 e.symm
 have T:¬N=M:=λe=>F e.symm;(try simp only[EV,seval,F,T]);refine aB [] _ hC.v (hU _) (SubN.refl _) ?_;rintro _ _ ⟨V,Y,d2,X,Z,d3,bk,ck,O,rfl,rfl,e6,e8,e7⟩ ac;simp only[append_eq,append_assoc]at ac;have al:M∉O.keys:=cA ac (by simp[Store.keys]);have an:N∉O.keys:=cA ac (by simp[Store.keys]);have bs:=lh ac;have cp:M∉d3.keys:=cA bs (by simp[Store.keys]);have d0:N∉d3.keys:=cA bs (by simp[Store.keys]);have dc:=lh bs;have bx:M∉d2.keys:=cA dc (by simp[Store.keys]);have cm:N∉d2.keys:=cA dc (by simp[Store.keys]);(try simp only[EV,seval,ao al,ao an,ar al,ar an,ao cp,ao d0,ar cp,ar d0,ao bx,ao cm,ar bx,ar cm,F,T,append_eq,append_assoc]);intro dd el;refine⟨[[.sc (.slice V u.head.length Y)],[.sc (.slice X u.words.length Z)]],rfl,by simp,rfl,?_⟩;(try simp only[EV,seval,ao al,ao an,ar al,ar an,ao cp,ao d0,ar cp,ar d0,ao bx,ao cm,ar bx,ar cm,F,T,append_eq,append_assoc])
 have e4:(Store.keys (O++(d3++(d2++[(N,AObj.cells 27 [.i 0,.i 0,.i 0,.i 0,.str [],.nil,.nil,.nil]),(M,AObj.cells 27 [.i 0,.i 0,.i 0,.i u.kind,.str u.label,.sc (.slice V u.head.length Y),.sc (.slice X u.words.length Z),.sc (.slice bk u.kids.length ck)])])))).Nodup:=by simpa[Store.keys]using ac
 refine gS (ι:=Nat×Store×Store) (λp=>p.1<=2/\gK 118 4 ((if 0<p.1 then u.head.map Wd.bare else u.head).map Wd.cs) V Y p.2.1/\gK 118 4 ((if 1<p.1 then u.words.map Wd.bare else u.words).map Wd.cs) X Z p.2.2/\(Store.keys (O++(p.2.2++(p.2.1++[(N,AObj.cells 27 [.i 0,.i 0,.i 0,.i 0,.str [],.nil,.nil,.nil]),(M,AObj.cells 27 [.i 0,.i 0,.i 0,.i u.kind,.str u.label,.sc (.slice V u.head.length Y),.sc (.slice X u.words.length Z),.sc (.slice bk u.kids.length ck)])])))).Nodup)
  (λp=>2-p.1) (λp=>[(1,.p M),(2,.p N),(15,.own (some dd) 24 1 [[.sc (.slice V u.head.length Y)],[.sc (.slice X u.words.length Z)]]),(16,.i 2),(17,.i p.1)]) (λp=>O++(p.2.2++(p.2.1++[(N,AObj.cells 27 [.i 0,.i 0,.i 0,.i 0,.str [],.nil,.nil,.nil]),(M,AObj.cells 27 [.i 0,.i 0,.i 0,.i u.kind,.str u.label,.sc (.slice V u.head.length Y),.sc (.slice X u.words.length Z),.sc (.slice bk u.kids.length ck)])]))) (0,d2,d3) ⟨Nat.zero_le _,e6,e8,e4⟩ (Weak.sub ((SubN.refl _).tail _)) ?_
 rintro⟨j,th,tw⟩ ⟨hj,ad,ah,bo⟩;simp only at ad ah bo ⊢
 have ea:j=0\/j=1\/j=2:=by omega
 rcases ea with rfl|rfl|rfl
 ·simp only[Nat.lt_irrefl,if_false,show ¬(1<0)by omega]at ad ah;(try simp only[EV,seval,append_eq]);have eg:∀(i:Nat) (x:Wd),True:=λ_ _=>trivial;refine ap (ι:=Store) u.head (λi r c=>gK 118 4 (((u.head.take i).map Wd.bare++u.head.drop i).map Wd.cs) V Y c/\(Store.keys (c++(O++(tw++[(N,AObj.cells 27 [.i 0,.i 0,.i 0,.i 0,.str [],.nil,.nil,.nil]),(M,AObj.cells 27 [.i 0,.i 0,.i 0,.i u.kind,.str u.label,.sc (.slice V u.head.length Y),.sc (.slice X u.words.length Z),.sc (.slice bk u.kids.length ck)])])))).Nodup)
   (λi c=>[(1,.p M),(2,.p N),(15,.own (some dd) 24 1 [[.sc (.slice V u.head.length Y)],[.sc (.slice X u.words.length Z)]]),(16,.i 2),(17,.i 0),(4,.sc (.slice V u.head.length Y)),(22,.i u.head.length),(23,.i i)])
   (λi c=>c++(O++(tw++[(N,AObj.cells 27 [.i 0,.i 0,.i 0,.i 0,.str [],.nil,.nil,.nil]),(M,AObj.cells 27 [.i 0,.i 0,.i 0,.i u.kind,.str u.label,.sc (.slice V u.head.length Y),.sc (.slice X u.words.length Z),.sc (.slice bk u.kids.length ck)])]))) th ⟨by simpa using ad,(o6 la).2 bo⟩ (Weak.sub (o6 la)) (by omega) (λi x r c J D hw=>?_) (λc J hn=>?_)
  ·obtain⟨hO,hN⟩:=J
   rcases hO with⟨h0,_,_⟩|⟨b,pad,rfl,rfl,I,bn,aw,aa⟩
   ·exfalso;have:=congrArg List.length h0;have h9:=D.lt;simp at this;omega
   ·have E:=pd D
    have hi:i<(((u.head.take i).map Wd.bare++u.head.drop i).map Wd.cs).length:=by rw[E];exact D.lt
    (try simp only[EV,seval,D.yes,D.le0,D.lt',hw,Nat.zero_add,append_eq]);refine⟨by rw[aa];rw[E]at I;have:=D.lt;omega,?_⟩;rw[dM (sz:=4) (off:=1) (c:=[.i 0,.i 0,.i 0]) (by decide) aw hi,ny D hi];(try simp only[EV,seval,hw,append_eq]);refine ak D [(b,.cells 118 ((((u.head.take (i+1)).map Wd.bare++u.head.drop (i+1)).map Wd.cs).flatten++pad))] ⟨.inr ⟨b,pad,rfl,rfl,?_,bn,jw _,?_⟩,by simpa[Store.keys]using hN⟩ (dT _ _)
    ·rw[iu D];rw[E]at I;exact I
    ·rw[←aa,length_append,length_append,az _ (jw _),az _ (jw _),iu D,E]
  ·obtain⟨hO,hN⟩:=J;rw[take_length,drop_length,append_nil]at hO;(try simp only[EV,seval,hn]);refine⟨(1,c,tw),⟨by omega,by simpa using hO,by simpa using ah,(o6 la.symm).2 hN⟩,by simp,?_⟩;exact Weak.sub (o6 la.symm)
 ·simp only[Nat.lt_irrefl,if_false,show(0<1)by omega,if_true]at ad ah;(try simp only[EV,seval,append_eq]);have eg:∀(i:Nat) (x:Wd),True:=λ_ _=>trivial;refine ap (ι:=Store) u.words (λi r c=>gK 118 4 (((u.words.take i).map Wd.bare++u.words.drop i).map Wd.cs) X Z c/\(Store.keys (c++(O++(th++[(N,AObj.cells 27 [.i 0,.i 0,.i 0,.i 0,.str [],.nil,.nil,.nil]),(M,AObj.cells 27 [.i 0,.i 0,.i 0,.i u.kind,.str u.label,.sc (.slice V u.head.length Y),.sc (.slice X u.words.length Z),.sc (.slice bk u.kids.length ck)])])))).Nodup)
   (λi c=>[(1,.p M),(2,.p N),(15,.own (some dd) 24 1 [[.sc (.slice V u.head.length Y)],[.sc (.slice X u.words.length Z)]]),(16,.i 2),(17,.i 1),(4,.sc (.slice X u.words.length Z)),(22,.i u.words.length),(23,.i i)])
   (λi c=>c++(O++(th++[(N,AObj.cells 27 [.i 0,.i 0,.i 0,.i 0,.str [],.nil,.nil,.nil]),(M,AObj.cells 27 [.i 0,.i 0,.i 0,.i u.kind,.str u.label,.sc (.slice V u.head.length Y),.sc (.slice X u.words.length Z),.sc (.slice bk u.kids.length ck)])]))) tw ⟨by simpa using ah,(o6 jQ).2 bo⟩ (Weak.sub (o6 jQ)) (by omega) (λi x r c J D hw=>?_) (λc J hn=>?_)
  ·obtain⟨hO,hN⟩:=J
   rcases hO with⟨h0,_,_⟩|⟨b,pad,rfl,rfl,I,bn,aw,aa⟩
   ·exfalso;have:=congrArg List.length h0;have h9:=D.lt;simp at this;omega
   ·have E:=pd D
    have hi:i<(((u.words.take i).map Wd.bare++u.words.drop i).map Wd.cs).length:=by rw[E];exact D.lt
    (try simp only[EV,seval,D.yes,D.le0,D.lt',hw,Nat.zero_add,append_eq]);refine⟨by rw[aa];rw[E]at I;have:=D.lt;omega,?_⟩;rw[dM (sz:=4) (off:=1) (c:=[.i 0,.i 0,.i 0]) (by decide) aw hi,ny D hi];(try simp only[EV,seval,hw,append_eq]);refine ak D [(b,.cells 118 ((((u.words.take (i+1)).map Wd.bare++u.words.drop (i+1)).map Wd.cs).flatten++pad))] ⟨.inr ⟨b,pad,rfl,rfl,?_,bn,jw _,?_⟩,by simpa[Store.keys]using hN⟩ (dT _ _)
    ·rw[iu D];rw[E]at I;exact I
    ·rw[←aa,length_append,length_append,az _ (jw _),az _ (jw _),iu D,E]
  ·obtain⟨hO,hN⟩:=J;rw[take_length,drop_length,append_nil]at hO;(try simp only[EV,seval,hn]);refine⟨(2,th,c),⟨by omega,by simpa using ad,by simpa using hO,(o6 jQ.symm).2 hN⟩,by simp,?_⟩;exact Weak.sub (o6 jQ.symm)
 ·simp only[show(0<2)by omega,show(1<2)by omega,if_true]at ad ah;have dl:=lh bo;have bb:M∉tw.keys:=cA dl (by simp[Store.keys]);have bd:N∉tw.keys:=cA dl (by simp[Store.keys]);have e2:=lh dl;have be:M∉th.keys:=cA e2 (by simp[Store.keys]);have bm:N∉th.keys:=cA e2 (by simp[Store.keys]);(try simp only[EV,seval,ao bb,ao bd,ar bb,ar bd,ao be,ao bm,ar be,ar bm,F,T,append_eq,append_assoc,ao al,ao an,ar al,ar an]);refine ap (ι:=Store) u.kids (λi r c=>gK 27 8 (((u.kids.take i).map U.strip++u.kids.drop i).map U.cs) bk ck c/\(Store.keys (c++(tw++(th++[(N,AObj.cells 27 [.i 0,.i 0,.i 0,.i 0,.str [],.nil,.nil,.nil]),(M,AObj.cells 27 [.i 0,.i 0,.i 0,.i u.kind,.str u.label,.sc (.slice V u.head.length Y),.sc (.slice X u.words.length Z),.sc (.slice bk u.kids.length ck)])])))).Nodup)
   (λi c=>[(1,.p M),(2,.p N),(35,.i u.kids.length),(36,.i i)]) (λi c=>c++(tw++(th++[(N,AObj.cells 27 [.i 0,.i 0,.i 0,.i 0,.str [],.nil,.nil,.nil]),(M,AObj.cells 27 [.i 0,.i 0,.i 0,.i u.kind,.str u.label,.sc (.slice V u.head.length Y),.sc (.slice X u.words.length Z),.sc (.slice bk u.kids.length ck)])]))) O ⟨by simpa using e7,bo⟩ (dT _ _) (by omega) (λi x r c J D hw=>?_) (λc J hn=>?_)
  ·obtain⟨hO,hN⟩:=J
   rcases hO with⟨h0,_,_⟩|⟨b,pad,rfl,rfl,I,bn,aw,aa⟩
   ·exfalso;have:=congrArg List.length h0;have h9:=D.lt;simp at this;omega
   ·have d1:=oK (g:=U.strip) (f:=U.cs) D
    have hi:i<(((u.kids.take i).map U.strip++u.kids.drop i).map U.cs).length:=by rw[d1];exact D.lt
    have e9:¬b=M:=by
     intro e;subst e;exact cA hN (b:=b) (by simp[Store.keys]) (by simp[Store.keys])
    have e5:=iO (pad:=pad) aw hi;rw[kQ D hi]at e5
    have eb:8<=((List.map U.cs (List.map U.strip (List.take i u.kids)++List.drop i u.kids)).flatten++pad).length-i*8:=by rw[aa];rw[d1]at I;have:=D.lt;omega
    have ds:=dM (sz:=8) (off:=0) (c:=x.strip.cs) (by rw[ra];omega) (pad:=pad) aw hi;rw[qE D hi,Nat.add_zero]at ds;have ef:=ih x D.mem (hs.kid D.mem);(repeat' (first|(with_reducible first|refine AI (by omega) ?_|refine ab ef ?_)|simp only[EV,seval,D.yes,D.le0,D.lt',hw,e9,F,T,ao bb,ao bd,ao be,ao bm,Nat.zero_add,append_eq,e5,ds,length_drop,ra]|(with_reducible first|refine ag ?_ ?_|refine ai ?_)))
    all_goals
     (try rw[ds])
     refine ak D [(b,.cells 27 ((((u.kids.take (i+1)).map U.strip++u.kids.drop (i+1)).map U.cs).flatten++pad))] ⟨.inr ⟨b,pad,rfl,rfl,?_,bn,jz _,?_⟩,by simpa[Store.keys]using hN⟩ (dT _ _)
     ·rw[jF D];rw[d1]at I;exact I
     ·rw[←aa,length_append,length_append,az _ (jz _),az _ (jz _),jF D,d1]
  ·obtain⟨hO,hN⟩:=J;rw[take_length,drop_length,append_nil]at hO;have e0:M∉c.keys:=cA hN (by simp[Store.keys]);have e1:N∉c.keys:=cA hN (by simp[Store.keys]);(try simp only[EV,seval,hn,ao bb,ao bd,ar bb,ar bd,ao be,ao bm,ar be,ar bm,F,T,append_eq,append_assoc,ao e0,ao e1,ar e0,ar e1]);refine rQ (σ':=c++(tw++th)) (sO (sO tC)) ⟨V,Y,th,X,Z,tw,bk,ck,c,?_,rfl,?_,?_,?_⟩
   ·rw[rV];simp
   ·rw[rV];exact ad
   ·rw[rV];exact ah
   ·rw[rV];exact hO
end
def tj {u:U} (E:u.Short):u.lone.Short:=by
 have I:=E.2 u u.flat_self;have D:=(sj u).1 E.1.1
 have e:u.lone.flat=[u.lone]:=by rw[U.flat_eq];show _::U.flats []=_;rw[bH]
 refine⟨⟨(sj _).2 ⟨D.1,D.2.1,D.2.2.1,by simp[U.lone],by simp[U.lone]⟩,by rw[e];simp⟩,?_⟩;intro x F;rw[e,mem_singleton]at F;subst F;exact I
def fit_strip:∀u:U,u.fit->u.strip.fit:=by
 refine U.ind λu ih J=>?_;obtain⟨a,⟨b,I⟩,⟨c,c2⟩,d,e⟩:=(sj u).1 J;rw[rV];refine(sj _).2 ⟨a,⟨by simpa using b,?_⟩,⟨by simpa using c,?_⟩,by simpa using d,?_⟩
 ·intro x D;obtain⟨w,E,rfl⟩:=mem_map.1 D;exact I w E
 ·intro x D;obtain⟨w,E,rfl⟩:=mem_map.1 D;exact c2 w E
 ·intro x D;obtain⟨k,F,rfl⟩:=mem_map.1 D;exact ih k F (e k F)
def kL {u:U} (E:u.Short):u.strip.Short:=by
 refine⟨⟨fit_strip u E.1.1,by rw[fe,length_map];exact E.1.2⟩,?_⟩;intro x I;rw[fe]at I;obtain⟨y,V,rfl⟩:=mem_map.1 I;obtain⟨J,M,N,O,T⟩:=E.2 y V;rw[rV];refine⟨J,by simpa using M,by simpa using N,?_,?_⟩
 ·intro w F;obtain⟨w',D,rfl⟩:=mem_map.1 F;exact O w' D
 ·intro w F;obtain⟨w',D,rfl⟩:=mem_map.1 F;exact T w' D
def U.Short.node {u x:U} (F:u.Short) (D:x∈u.flat):x.Short:=by
 induction u using U.ind with
 |h u ih=>
  rw[U.flat_eq]at D
  rcases mem_cons.1 D with rfl|D
  ·exact F
  ·obtain⟨k,E,D⟩:=jB D;exact ih k E (F.kid E) D
def repeat2 (n:Nat):Lib.repeatL [32,32] n=List.replicate (2*n) 32:=by
 induction n with
 |zero=>rfl
 |succ n ih=>rw[Lib.repeatL,ih,Nat.mul_add];simp[replicate_succ]
def mw {τ:Store} {w:World} {b:Nat}:∀(xs:List (List UInt8)) (i:Nat),aA τ w ⟨b,0,none⟩ 1 i (xs.map srow)->∀(j:Nat) x,xs[j]? =some x->w.cell? ⟨b,i+j,none⟩=some (.string ⟨⟨x⟩⟩)
 |[],i,_,j,x,hx=>by simp at hx
 |y::xs,i,h,j,x,hx=>by
  simp only[srow,map_cons,aA,RepAt,Rep]at h;obtain⟨_,⟨⟨u,D,_,rfl⟩,_⟩,E⟩:=h
  cases j with
  |zero=>
   simp at hx;subst hx
   have e:(⟨b,0,none⟩:Addr).add (i*1)=⟨b,i,none⟩:=by unfold Addr.add;by_cases hi:i=0<;>simp[hi]
   have:=D.1;rw[e]at this;exact this
  |succ j=>
   have:=mw xs (i+1) E j x (by simpa using hx);rw[show i+(j+1)=i+1+j by omega];exact this
section
variable (G:Glob)
def f400 (n:Nat) (N:n<=8):Pure G Tryz.prog 400 [.str [32,32],.i n] (.str (List.replicate (2*n) 32)):=by
 refine sn Tryz.func400 (by kernel_rfl) (by kernel_rfl) λτ w vs M I=>?_;obtain⟨u,v,rfl,E,F⟩:=gT I;simp only[Rep]at E F;subst E F;refine⟨.string ⟨⟨List.replicate (2*n) 32⟩⟩,λ_ _=>by simp only[Rep],?_⟩;have D:(⟨⟨[32,32]⟩⟩:ByteArray).size=2:=rfl;refine(Tryz.strings_Repeat ⟨⟨[32,32]⟩⟩ n w (by omega) (by rw[D];omega)).mono ?_;rintro e w' ⟨rfl,J⟩;exact⟨by rw[←repeat2],J⟩
def f353 (g:Option Nat) (xs:List (List UInt8)) (D:List UInt8) (hn:xs.length<=1000000) (Z:(Lib.join xs D).length<=140737488355328):Pure G Tryz.prog 353 [.own g 9 1 (xs.map srow),.str D] (.str (Lib.join xs D)):=by
 refine sn Tryz.func353 (by kernel_rfl) (by kernel_rfl) λτ w vs hS X=>?_;obtain⟨u,v,rfl,I,O⟩:=gT X;simp only[Rep]at O;subst O;refine⟨.string ⟨⟨Lib.join xs D⟩⟩,λ_ _=>by simp only[Rep],?_⟩
 have E:∀a c,xs=[]->Calls Tryz.prog 353 #[.slice a 0 c,.string ⟨⟨D⟩⟩] w λe w'=>e= .returned (.string ⟨⟨Lib.join xs D⟩⟩)/\Below w.heap.size w w':=by
  rintro a c rfl;refine(Tryz.strings_Join_none a c ⟨⟨D⟩⟩ w).mono ?_;rintro e w' ⟨rfl,rfl⟩;exact⟨rfl,Below.refl _ _⟩
 cases g with
 |none=>
  simp only[Rep]at I;obtain⟨rfl,M⟩:=I;exact E _ _ (by simpa using M)
 |some b=>
  simp only[Rep]at I;obtain⟨cap,rfl,T,hm,J,hr⟩:=I;rw[length_map]at T ⊢;by_cases M:xs=[]
  ·subst M;exact E _ _ rfl
  ·have N:(xs.map (λx=>(⟨⟨x⟩⟩:ByteArray))).map (·.data.toList)=xs:=by rw[map_map];exact map_id xs
   have Y:b<w.heap.size:=by
    rcases Nat.lt_or_ge b w.heap.size with h|h
    ·exact h
    ·have:w.heap[b]? =none:=Array.getElem?_eq_none h;simp[World.shape?,this]at J
   have F:∀(j:Nat) x,(xs.map (λx=>(⟨⟨x⟩⟩:ByteArray)))[j]? =some x->w.cell? ⟨b,0+j,none⟩=some (.string x):=by
    intro j x V;simp only[getElem?_map,Option.map_eq_some_iff]at V;obtain⟨y,hy,rfl⟩:=V;exact mw xs 0 hr j y hy
   have h:=Tryz.strings_Join b 0 cap (xs.map (λx=>(⟨⟨x⟩⟩:ByteArray))) ⟨⟨D⟩⟩ w F Y (by simp;omega) (by simpa using T) (by rw[N];exact Z);rw[N,length_map]at h;exact h
def f401 (s:List UInt8) (l:List Wd) (hs:s.length<=1000000) (J:ba l=true):Pure G Tryz.prog 401 [.str s,.lst 4 (l.map Wd.cs)] (.str (s++wordsT l)):=by
 have hl:=row_len J;refine Pure.w c401 λR O=>?_;unfold s401 r401;(repeat' (first|(with_reducible (first|refine ae (λh=>?_) λh=>?_|refine af (λh=>?_) λh=>?_)<;>(try simp only[DZ]at h))|(with_reducible refine AI (by omega) ?_)|simp only[EV,seval,length_append,length_cons,length_nil,E.yes,E.le0,E.lt',E.get,E.row,Z]|simp only[EV,seval,length_append,length_cons,length_nil,V]|simp only[EV,seval,length_append,length_cons,length_nil]|(with_reducible intro M F;(try(have I:=F;simp only[EVK]at I;(have X:=I))))|(refine ap (ι:=List UInt8) (l) (λi r c=>s++wordsT l=c++wordsT r/\c.length<=s.length+i*26) (λi c=>[(0,.str c),(7,.lst 4 (l.map Wd.cs)),(8,.i l.length),(9,.i i)]) (λ_ _=>[]) (s) (by((simp;done))) (dT _ _) (by omega) (λi x r c D E Z=>?_) (λc D V=>?_)<;>(try(obtain⟨hp,Y⟩:=row_word J E.mem;have T:=E.lt)))|(refine ak E _ ?_ (Weak.sub (SubN.nil _)))))
 ·rw[D.1]
  have e:escT x.text=92::x.text:=by unfold escT;rw[if_pos];right;exact UInt8.toNat_inj.1 (by show _=92;omega)
  exact⟨by simp[wordsT,e],by omega⟩
 ·rename_i N;rw[D.1]
  have e:escT x.text=x.text:=by
   unfold escT;rw[if_neg];rintro(h3|h3)
   ·exact N (by rw[h3];rfl)
   ·exact h (by rw[h3];rfl)
  exact⟨by simp[wordsT,e],by omega⟩
 ·rw[D.1]
  have e:escT x.text=92::x.text:=by unfold escT;rw[if_pos];left;exact UInt8.toNat_inj.1 (by show _=124;omega)
  exact⟨by simp[wordsT,e],by omega⟩
 ·exact RET.eq O (by rw[D.1];simp[wordsT])
end
def lone_cs (u:U):u.lone.cs=[.i 0,.i 0,.i 0,.i u.kind,.str u.label,.lst 4 (u.head.map Wd.cs),.lst 4 (u.words.map Wd.cs),.lst 8 []]:=by rw[hH];rfl
section
variable (G:Glob) (hG:GOk G)
include hG
def f399 (u:U) (d:Int) (J:u.Short):Pure G Tryz.prog 399 [.agg u.cs,.i d] (.bool ((decide (0<=d)&&decide (d<=8))&&cD u)):=by
 have F:=f385 G u.lone (tj J);have I:=f275 G hG u.lone.strip (kL (tj J));rw[tree_lone]at I;rw[lone_cs]at F;rw[hH u];refine Pure.w c399 λR N=>?_;unfold s399 r399;(repeat' (first|(with_reducible (refine af (λh=>?_) λh=>?_)<;>(try simp only[DZ]at h))|(with_reducible refine ab I ?_)|simp only[EV,seval]|(with_reducible intro M D;(try(have E:=D;simp only[EVK]at E;(have O:=E))))|(refine aP F ⟨.inr ⟨.inl rfl,.inl rfl,.inl rfl,.inl rfl,.inl rfl,.inl rfl,.inl rfl,.inr rfl,trivial⟩,trivial⟩ ?_)))
 all_goals(refine RET.eq N (congrArg AV.bool ?_);first|(simp[*];done)|(rw[decide_eq_false (p:=0<=d) (by omega)];rfl)|(rw[decide_eq_false (p:=d<=8) (by omega),Bool.and_false];rfl))
def f387 (u:U) (n:Nat) (F:u.Short) (hn:n<=1000000):Pure G Tryz.prog 387 [.agg u.cs,.i n] (.str (lineOf u n)):=by
 have J:=f399 G hG u n F;have E:=f374 G hG u.kind;refine Pure.w c387 λR I=>?_;unfold s387 r387;by_cases D:cD u=true/\n<=8
 ·obtain⟨Y,Z,V,X,al⟩:=alone_facts D.1;have b1:=wordsT_row V;have b2:=wordsT_row X;have b3:=kindText_len u.kind;have T:=f400 G n D.2;rw[D.1,Bool.and_true,show(decide ((0:Int)<=n)&&decide ((n:Int)<=8))=true by simp;omega]at J;rw[if_pos ⟨Y,Z⟩]at E
  have M:lineOf u n=lineT u n:=by unfold lineOf;rw[if_pos ⟨D.2,D.1⟩]
  rw[M]at I;have N:=λs F=>f401 G s u.head F V;have O:=λs F=>f401 G s u.words F X;(repeat' (first|(with_reducible (refine ae (λh=>?_) λh=>?_)<;>(try simp only[DZ]at h))|(with_reducible first|refine AI (by omega) ?_|refine ab J ?_|refine ab E ?_|refine ab T ?_|refine ab (N _ (by simp;omega)) ?_|refine ab (O _ (by simp;omega)) ?_)|simp only[EV,seval,length_append,length_cons,length_nil,length_replicate]))
  all_goals(refine RET.eq I (congrArg AV.str ?_);unfold lineT;(repeat first|rw[if_pos (by omega)]|rw[if_neg (by omega)]);simp;done)
 ·have e:((decide ((0:Int)<=n)&&decide ((n:Int)<=8))&&cD u)=false:=by
   rw[Bool.eq_false_iff];intro h;simp at h;exact D ⟨h.2,by omega⟩
  rw[e]at J
  have M:lineOf u n=[]:=by unfold lineOf;rw[if_neg (λh=>D ⟨h.2,h.1⟩)]
  rw[M]at I;(repeat' (first|(with_reducible refine ab J ?_)|simp only[EV,seval]));(all_goals((exact RET.eq I rfl)))
end
end Go.Av
