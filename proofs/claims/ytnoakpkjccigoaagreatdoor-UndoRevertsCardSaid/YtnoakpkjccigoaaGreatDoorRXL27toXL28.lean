/-
  LINT, 27: copies of trees.
-/
import Derived.Test.YtnoakpkjccigoaaGreatDoorRXL13toXL45
import Derived.Test.YtnoakpkjccigoaaGreatDoorRXE10toXL26
import Derived.Test.YtnoakpkjccigoaaGreatDoorRXE7toXP1
import Derived.Test.YtnoakpkjccigoaaGreatDoorRXL18toXL21
import Derived.Lib.Join
namespace Go.Av
open Go Go.RowKit Go.Proofs List
set_option linter.unusedSimpArgs false
set_option linter.unusedVariables false
theorem cn {σ τ:Store} (h:(σ++τ:Store).keys.Nodup) {b:Nat} (D:b∈τ.keys):b∉σ.keys:=by
 rw[az]at h
 exact λE=>(nodup_append.1 h).2.2 b E b D rfl
theorem jM {σ τ:Store} (h:(σ++τ:Store).keys.Nodup):τ.keys.Nodup:=by
 rw[az]at h
 exact(nodup_append.1 h).2.1
def ko (u:U) (r:AV) (σ:Store):Prop:=
 ∃I N D M O F J ck E,r= .agg [.int .i64 u.id.act,.int .i64 u.id.item,.int .i64 u.id.n,.int .i64 u.kind,.str u.label,.sc (.slice I u.head.length N),.sc (.slice M u.words.length O),.sc (.slice J u.kids.length ck)]/\
  σ=E++(F++D)/\fI 33 4 (u.head.map Wd.cs) I N D/\fI 33 4 (u.words.map Wd.cs) M O F/\fI 27 8 (u.kids.map U.cs) J ck E
theorem ko.freeze {G:Glob} {P:Program} {k:FuncId} {args:List AV} {u:U} (h:ag G P k args [] (ko u)):Pure G P k args (.agg u.cs):=by
 refine ag.freeze (ag.mono h ?_)
 rintro r σ' ⟨I,N,D,M,O,F,J,ck,E,rfl,rfl,T,V,X⟩
 refine⟨_,rfl,?_⟩
 rw[U.cs_eq]
 refine⟨.inl rfl,.inl rfl,.inl rfl,.inl rfl,.inl rfl,.inr ⟨_,_,_,D,⟨I,N,by simp,T⟩,?_,rfl⟩,.inr ⟨_,_,_,F,⟨M,O,by simp,V⟩,?_,rfl⟩,.inr ⟨_,_,_,E,⟨J,ck,by simp,X⟩,?_,rfl⟩,trivial⟩<;>
 ·intro p Y
  simp only[mem_append]
  simp[Y]
abbrev KS:=Option (Nat×Nat×List AV)
def kAV (c:KS) (n:Nat):AV:=match c with
 |none=>.nil
 |some (b,cap,_)=>.sc (.slice (some ⟨b,0,none⟩) n cap)
def kSt (c:KS) (rows:List (List AV)):Store:=match c with
 |none=>[]
 |some (b,_,pad)=>[(b,.cells 27 (rows.flatten++pad))]
def kOk (c:KS) (rows:List (List AV)):Prop:=match c with
 |none=>rows=[]
 |some (b,cap,pad)=>rows.length<=cap/\cap<=maxLen/\(∀r∈rows,r.length=8)/\(rows.flatten++pad).length=cap*8
theorem kWS {c:KS} {rows:List (List AV)} (h:kOk c rows):WS (kSt c rows) 27 8 (kAV c rows.length) rows (c.map (·.1)):=by
 cases c with
 |none=>exact .inl ⟨h,rfl,.inl rfl⟩
 |some p=>
  obtain⟨b,cap,pad⟩:=p
  obtain⟨D,E,F,I⟩:=h
  exact .inr ⟨b,cap,pad,rfl,rfl,by simp[kSt,Store.get],F,I,D,E⟩
theorem kErase (c:KS) (rows:List (List AV)):(kSt c rows).erase (c.map (·.1))=[]:=by
 cases c with
 |none=>rfl
 |some p=>obtain⟨b,cap,pad⟩:=p;simp[kSt,Store.erase]
theorem kS {c:KS} {rows:List (List AV)} (h:kOk c rows):∃D cap,aR (kAV c rows.length) (.sc (.slice D rows.length cap))/\fI 27 8 rows D cap (kSt c rows):=by
 cases c with
 |none=>
  have h:rows=[]:=h
  subst h
  exact⟨none,0,.inr rfl,.inl ⟨rfl,rfl,rfl⟩⟩
 |some p=>
  obtain⟨b,cap,pad⟩:=p
  obtain⟨E,F,I,J⟩:=h
  exact⟨some ⟨b,0,none⟩,cap,.inl rfl,.inr ⟨b,pad,rfl,rfl,E,F,I,J⟩⟩
section
variable (G:Glob)
set_option maxHeartbeats 2000000 in
theorem f84:∀(u:U),u.Short->ag G Tryz.prog 84 [.agg u.cs] [] (ko u):=by
 refine U.ind λu ih hs=>?_
 have h0:=hs.2 u u.flat_self
 have d2:=hs.1.kids
 have bn:=f86 G u.head h0.2.1
 have bo:=f86 G u.words h0.2.2.1
 rw[U.cs_eq u]
 refine ag.w c84 ?_
 unfold s84 r84
 (try simp only[EVz,seval,↓reduceIte,EV6,EV7])
 intro X cp Y bd
 have F:¬X=Y:=by simp only[EVK]at bd;exact λe=>bd e.symm
 have M:¬Y=X:=λe=>F e.symm
 (repeat' (first|simp only[EVz,seval,↓reduceIte,EV6,EV7,F,M]|(with_reducible refine ae ?_ ?_)))
 all_goals(
  refine av [] _ bn.v (ax.rfl' _) (SubN.refl _) ?_
  rintro _ O ⟨bh,ch,rfl,bp⟩ al
  have D:X∉O.keys:=cn al (by simp[Store.keys])
  have E:Y∉O.keys:=cn al (by simp[Store.keys])
  (try simp only[EVz,seval,↓reduceIte,EV6,EV7,ak D,ak E,am D,am E,F,M])
  refine av [] _ bo.v (ax.rfl' _) (SubN.refl _) ?_
  rintro _ T ⟨bw,cw,rfl,bq⟩ V
  have I:X∉T.keys:=cn V (by simp[Store.keys])
  have J:Y∉T.keys:=cn V (by simp[Store.keys])
  (try simp only[EVz,seval,↓reduceIte,EV6,EV7,ak D,ak E,am D,am E,ak I,ak J,am I,am J,F,M,append_eq]))
 all_goals(
  refine af ?_
  (try simp only[EVz,seval,↓reduceIte,EV6,EV7,ak D,ak E,am D,am E,ak I,ak J,am I,am J,F,M,append_eq])
  have bi:Store.keys (T++(O++[(Y,AObj.cells 27 [.int .i64 0,.int .i64 0,.int .i64 0,.int .i64 0,.str [],.nil,.nil,.nil]),(X,AObj.cells 27 [.int .i64 u.id.act,.int .i64 u.id.item,.int .i64 u.id.n,.int .i64 u.kind,.str u.label,.sc (.slice bh u.head.length ch),.sc (.slice bw u.words.length cw),.lst 8 (u.kids.map U.cs)])]))|>.Nodup:=by
   simp only[append_eq]at V
   simpa[Store.keys]using V
  refine ay (ι:=KS) u.kids (λi r c=>kOk c ((u.kids.take i).map U.cs)/\(Store.keys (kSt c ((u.kids.take i).map U.cs)++(T++(O++[(Y,AObj.cells 27 [.int .i64 0,.int .i64 0,.int .i64 0,.int .i64 0,.str [],.nil,.nil,.nil]),(X,AObj.cells 27 [.int .i64 u.id.act,.int .i64 u.id.item,.int .i64 u.id.n,.int .i64 u.kind,.str u.label,.sc (.slice bh u.head.length ch),.sc (.slice bw u.words.length cw),.lst 8 (u.kids.map U.cs)])])))).Nodup)
   (λi c=>[(1,.sc (.pointer (some ⟨X,0,none⟩))),(2,.sc (.pointer (some ⟨Y,0,none⟩))),(3,kAV c i),(15,.lst 8 (u.kids.map U.cs)),(16,.int .i64 u.kids.length),(17,.int .i64 i)])
   (λi c=>kSt c ((u.kids.take i).map U.cs)++(T++(O++[(Y,AObj.cells 27 [.int .i64 0,.int .i64 0,.int .i64 0,.int .i64 0,.str [],.nil,.nil,.nil]),(X,AObj.cells 27 [.int .i64 u.id.act,.int .i64 u.id.item,.int .i64 u.id.n,.int .i64 u.kind,.str u.label,.sc (.slice bh u.head.length ch),.sc (.slice bw u.words.length cw),.lst 8 (u.kids.map U.cs)])]))) none ⟨rfl,bi⟩ (Weak.rfl' _ _) (by omega) (λi x r c ac N hw=>?_) (λc ac hn=>?_)
  ·have an:((u.kids.take i).map U.cs).length=i:=by rw[length_map,length_take];have:=N.lt;omega
   have bm:=kWS ac.1
   rw[an]at bm
   (try simp only[EVz,seval,↓reduceIte,EV6,EV7,N.yes,N.le0,N.lt',N.row,hw,N.get,ak D,ak E,am D,am E,ak I,ak J,am I,am J,F,M,append_eq])
   intro b5 d0
   (try simp only[EVz,seval,↓reduceIte,EV6,EV7,N.yes,N.le0,N.lt',N.row,hw,N.get,ak D,ak E,am D,am E,ak I,ak J,am I,am J,F,M,append_eq])
   refine aa (ko.freeze (ih x N.mem (hs.kid N.mem))) ?_
   (try simp only[EVz,seval,↓reduceIte,EV6,EV7,N.yes,N.le0,N.lt',N.row,hw,N.get,ak D,ak E,am D,am E,ak I,ak J,am I,am J,F,M,append_eq])
   intro b6 d1
   refine⟨[x.cs],rfl,by simp[U.cs_len],by simp,?_⟩
   (try simp only[EVz,seval,↓reduceIte,EV6,EV7,ak D,ak E,am D,am E,ak I,ak J,am I,am J,F,M,append_eq])
   refine oW (kSt c ((u.kids.take i).map U.cs)) (T++(O++[(Y,AObj.cells 27 [.int .i64 0,.int .i64 0,.int .i64 0,.int .i64 0,.str [],.nil,.nil,.nil]),(X,AObj.cells 27 [.int .i64 u.id.act,.int .i64 u.id.item,.int .i64 u.id.n,.int .i64 u.kind,.str u.label,.sc (.slice bh u.head.length ch),.sc (.slice bw u.words.length cw),.lst 8 (u.kids.map U.cs)])])) (((SubN.refl _).tail _).tail _) ?_
   refine bY (e:=27) (e':=27) (sz:=8) (bytes:=120) (rows:=(u.kids.take i).map U.cs) (ys:=[x.cs]) (g:=c.map (·.1)) (xv:=kAV c i) (by kernel_rfl) (by kernel_rfl) (by kernel_rfl) (by kernel_rfl) (by decide) (by decide) rfl bm ⟨rfl,rfl⟩ (by rw[an];simp only[length_cons,length_nil];have:=N.lt;omega) (λ_ h=>by cases h) (λb cap pad hb Z bs cm bu be=>?_)
   rw[kErase]at be ⊢
   have aw:((u.kids.take i).map U.cs++[x.cs]).length=i+1:=by rw[length_append,an];rfl
   have ba:(u.kids.take (i+1)).map U.cs=(u.kids.take i).map U.cs++[x.cs]:=by rw[N.take];simp
   (try simp only[EVz,seval,↓reduceIte,EV6,EV7,hw,aw,ak D,ak E,am D,am E,ak I,ak J,am I,am J,F,M,append_eq])
   refine ap N (some (b,cap,pad)) ⟨?_,?_⟩ ?_
   ·rw[ba];exact⟨Z,bs,cm,bu⟩
   ·rw[ba];exact be
   ·rw[ba];exact Weak.rfl' _ _
  ·rw[take_length]at ac ⊢
   obtain⟨bk,ck,Z,bx⟩:=kS ac.1
   rw[length_map]at Z
   have bl:=ac.2
   have ad:X∉(kSt c (u.kids.map U.cs)).keys:=cn bl (by simp[Store.keys])
   have ah:Y∉(kSt c (u.kids.map U.cs)).keys:=cn bl (by simp[Store.keys])
   have bb:∀v:AV,aR v (.sc (.slice bk u.kids.length ck))->RET (.agg [.int .i64 u.id.act,.int .i64 u.id.item,.int .i64 u.id.n,.int .i64 u.kind,.str u.label,.sc (.slice bh u.head.length ch),.sc (.slice bw u.words.length cw),v])
     (kSt c (u.kids.map U.cs)++(T++(O++[(Y,AObj.cells 27 [.int .i64 u.id.act,.int .i64 u.id.item,.int .i64 u.id.n,.int .i64 u.kind,.str u.label,.sc (.slice bh u.head.length ch),.sc (.slice bw u.words.length cw),v]),(X,AObj.cells 27 [.int .i64 u.id.act,.int .i64 u.id.item,.int .i64 u.id.n,.int .i64 u.kind,.str u.label,.sc (.slice bh u.head.length ch),.sc (.slice bw u.words.length cw),v])]))) (ko u):=λv hv=>
    RET.le (y:=.agg [.int .i64 u.id.act,.int .i64 u.id.item,.int .i64 u.id.n,.int .i64 u.kind,.str u.label,.sc (.slice bh u.head.length ch),.sc (.slice bw u.words.length cw),.sc (.slice bk u.kids.length ck)])
     (.inr ⟨.inl rfl,.inl rfl,.inl rfl,.inl rfl,.inl rfl,.inl rfl,.inl rfl,hv,trivial⟩) (SubN.app (SubN.app SubN.appL)) ⟨bh,ch,O,bw,cw,T,bk,ck,_,rfl,rfl,by simpa using bp,by simpa using bq,by simpa using bx⟩
   rcases c with _|⟨b,cap,pad⟩
   ·simp only[kAV]at*
    (try simp only[EVz,seval,↓reduceIte,EV6,EV7,hn,ak ad,ak ah,am ad,am ah,ak D,ak E,am D,am E,ak I,ak J,am I,am J,F,M,append_eq])
    exact bb _ Z
   ·simp only[kAV]at*
    (try simp only[EVz,seval,↓reduceIte,EV6,EV7,hn,ak ad,ak ah,am ad,am ah,ak D,ak E,am D,am E,ak I,ak J,am I,am J,F,M,append_eq])
    exact bb _ Z)
end
theorem mix_len {α:Type} {g:α->α} {f:α->List AV} {l:List α} {i:Nat} {x:α} {r:List α} (D:Rest l i x r):(((l.take i).map g++l.drop i).map f).length=l.length:=by
 simp;have:=D.lt;omega
theorem kC {α:Type} {g:α->α} {f:α->List AV} {l:List α} {i:Nat} {x:α} {r:List α} (D:Rest l i x r):(((l.take (i+1)).map g++l.drop (i+1)).map f).length=l.length:=by
 simp;have:=D.lt;omega
theorem mA {α:Type} {g:α->α} {f:α->List AV} {l:List α} {i:Nat} {x:α} {r:List α} (D:Rest l i x r) (hi:i<(((l.take i).map g++l.drop i).map f).length):(((l.take i).map g++l.drop i).map f)[i]=f x:=by
 have E:=D.lt
 have F:=D.get x
 rw[getElem_map,getElem_append_right (by simp;omega)]
 simp only[length_map,length_take,getElem_drop]
 congr 1
 have e:i+(i-min i l.length)=i:=by omega
 simp only[e]
 simpa[E]using F
theorem mix_set {α:Type} {g:α->α} {f:α->List AV} {l:List α} {i:Nat} {x:α} {r:List α} (D:Rest l i x r):(((l.take i).map g++l.drop i).map f).set i (f (g x))=((l.take (i+1)).map g++l.drop (i+1)).map f:=by
 have E:=D.lt
 rw[map_append,set_append_right _ _ (by simp;omega)]
 have e:i-(List.map f (List.map g (List.take i l))).length=0:=by simp;omega
 rw[e,D.take,map_append,map_append,map_append]
 have F:l.drop i=x::l.drop (i+1):=by
  rw[drop_eq_getElem_cons E]
  congr 1
  simpa[E]using D.get x
 rw[F]
 simp
theorem nr {l:List Wd} {i:Nat} {x:Wd} {r:List Wd} (D:Rest l i x r):(((l.take i).map Wd.bare++l.drop i).map Wd.cs).length=l.length:=mix_len D
theorem gF {l:List Wd} {i:Nat} {x:Wd} {r:List Wd} (D:Rest l i x r):(((l.take (i+1)).map Wd.bare++l.drop (i+1)).map Wd.cs).length=l.length:=kC D
theorem lV {l:List Wd} {i:Nat} {x:Wd} {r:List Wd} (D:Rest l i x r) (hi:i<(((l.take i).map Wd.bare++l.drop i).map Wd.cs).length):
  (((l.take i).map Wd.bare++l.drop i).map Wd.cs).set i (aH (((l.take i).map Wd.bare++l.drop i).map Wd.cs)[i] 1 [.int .i64 0,.int .i64 0,.int .i64 0])=(((l.take (i+1)).map Wd.bare++l.drop (i+1)).map Wd.cs):=by
 rw[mA D hi,←mix_set D]
 rfl
theorem oL {l:List U} {i:Nat} {x:U} {r:List U} (D:Rest l i x r) (hi:i<(((l.take i).map U.strip++l.drop i).map U.cs).length):
  (((l.take i).map U.strip++l.drop i).map U.cs).set i (aH (((l.take i).map U.strip++l.drop i).map U.cs)[i] 0 x.strip.cs)=(((l.take (i+1)).map U.strip++l.drop (i+1)).map U.cs):=by
 rw[mA D hi,←mix_set D]
 congr 1
 rw[aY _ _ _ (by rw[U.cs_len,U.cs_len];omega),U.cs_len,drop_of_length_le (by rw[U.cs_len];omega)]
 simp
theorem jG {a b c d:Store}:List.Perm (c++(a++(b++d))) (a++(b++(c++d))):=by
 have D:List.Perm (c++(a++(b++d))) ((a++b)++(c++d)):=by
  rw[←append_assoc a b d]
  exact perm_append_comm_assoc c (a++b) d
 rwa [append_assoc]at D
theorem iU {a b c:Store}:List.Perm (b++(a++c)) (a++(b++c)):=perm_append_comm_assoc b a c
section
variable (G:Glob)
set_option maxHeartbeats 4000000 in
theorem f307:∀(u:U),u.Short->Pure G Tryz.prog 307 [.agg u.cs] (.agg u.strip.cs):=by
 refine U.ind λu ih hs=>ko.freeze ?_
 have h0:=hs.2 u u.flat_self
 have eb:=hs.1.kids
 have ea:=h0.2.1
 have ef:=h0.2.2.1
 have hC:=f84 G u hs
 rw[U.cs_eq u]at hC ⊢
 refine ag.w c307 ?_
 unfold s307 r307
 (try simp only[EVz,seval,↓reduceIte,EV6,EV7])
 intro M e9 N dd
 have F:¬M=N:=by simp only[EVK]at dd;exact λe=>dd e.symm
 have T:¬N=M:=λe=>F e.symm
 (try simp only[EVz,seval,↓reduceIte,EV6,EV7,F,T])
 refine av [] _ hC.v (ax.rfl' _) (SubN.refl _) ?_
 rintro _ _ ⟨V,Y,bx,X,Z,cm,bk,ck,O,rfl,rfl,e0,e2,e1⟩ ad
 simp only[append_eq,append_assoc]at ad
 have an:M∉O.keys:=cn ad (by simp[Store.keys])
 have aw:N∉O.keys:=cn ad (by simp[Store.keys])
 have bn:=jM ad
 have bq:M∉cm.keys:=cn bn (by simp[Store.keys])
 have bs:N∉cm.keys:=cn bn (by simp[Store.keys])
 have cp:=jM bn
 have bo:M∉bx.keys:=cn cp (by simp[Store.keys])
 have bp:N∉bx.keys:=cn cp (by simp[Store.keys])
 (try simp only[EVz,seval,↓reduceIte,EV6,EV7,ak an,ak aw,am an,am aw,ak bq,ak bs,am bq,am bs,ak bo,ak bp,am bo,am bp,F,T,append_eq,append_assoc])
 intro d0 e8
 refine⟨[[.sc (.slice V u.head.length Y)],[.sc (.slice X u.words.length Z)]],rfl,by simp,rfl,?_⟩
 (try simp only[EVz,seval,↓reduceIte,EV6,EV7,ak an,ak aw,am an,am aw,ak bq,ak bs,am bq,am bs,ak bo,ak bp,am bo,am bp,F,T,append_eq,append_assoc])
 have dl:(Store.keys (O++(cm++(bx++[(N,AObj.cells 27 [.int .i64 0,.int .i64 0,.int .i64 0,.int .i64 0,.str [],.nil,.nil,.nil]),(M,AObj.cells 27 [.int .i64 0,.int .i64 0,.int .i64 0,.int .i64 u.kind,.str u.label,.sc (.slice V u.head.length Y),.sc (.slice X u.words.length Z),.sc (.slice bk u.kids.length ck)])])))).Nodup:=by simpa[Store.keys]using ad
 refine jf (ι:=Nat×Store×Store) (λp=>p.1<=2/\fI 33 4 ((if 0<p.1 then u.head.map Wd.bare else u.head).map Wd.cs) V Y p.2.1/\fI 33 4 ((if 1<p.1 then u.words.map Wd.bare else u.words).map Wd.cs) X Z p.2.2/\(Store.keys (O++(p.2.2++(p.2.1++[(N,AObj.cells 27 [.int .i64 0,.int .i64 0,.int .i64 0,.int .i64 0,.str [],.nil,.nil,.nil]),(M,AObj.cells 27 [.int .i64 0,.int .i64 0,.int .i64 0,.int .i64 u.kind,.str u.label,.sc (.slice V u.head.length Y),.sc (.slice X u.words.length Z),.sc (.slice bk u.kids.length ck)])])))).Nodup)
  (λp=>2-p.1) (λp=>[(1,.sc (.pointer (some ⟨M,0,none⟩))),(2,.sc (.pointer (some ⟨N,0,none⟩))),(15,.own (some d0) 24 1 [[.sc (.slice V u.head.length Y)],[.sc (.slice X u.words.length Z)]]),(16,.int .i64 2),(17,.int .i64 p.1)]) (λp=>O++(p.2.2++(p.2.1++[(N,AObj.cells 27 [.int .i64 0,.int .i64 0,.int .i64 0,.int .i64 0,.str [],.nil,.nil,.nil]),(M,AObj.cells 27 [.int .i64 0,.int .i64 0,.int .i64 0,.int .i64 u.kind,.str u.label,.sc (.slice V u.head.length Y),.sc (.slice X u.words.length Z),.sc (.slice bk u.kids.length ck)])]))) (0,bx,cm) ⟨Nat.zero_le _,e0,e2,dl⟩ (Weak.sub ((SubN.refl _).tail _)) ?_
 rintro⟨j,th,tw⟩ ⟨hj,ah,al,bm⟩
 simp only at ah al bm ⊢
 have e4:j=0\/j=1\/j=2:=by omega
 rcases e4 with rfl|rfl|rfl
 ·simp only[Nat.lt_irrefl,if_false,show ¬(1<0)by omega]at ah al
  (try simp only[EVz,seval,↓reduceIte,EV6,EV7,append_eq])
  have e7:∀(i:Nat) (x:Wd),True:=λ_ _=>trivial
  refine ay (ι:=Store) u.head (λi r c=>fI 33 4 (((u.head.take i).map Wd.bare++u.head.drop i).map Wd.cs) V Y c/\(Store.keys (c++(O++(tw++[(N,AObj.cells 27 [.int .i64 0,.int .i64 0,.int .i64 0,.int .i64 0,.str [],.nil,.nil,.nil]),(M,AObj.cells 27 [.int .i64 0,.int .i64 0,.int .i64 0,.int .i64 u.kind,.str u.label,.sc (.slice V u.head.length Y),.sc (.slice X u.words.length Z),.sc (.slice bk u.kids.length ck)])])))).Nodup)
   (λi c=>[(1,.sc (.pointer (some ⟨M,0,none⟩))),(2,.sc (.pointer (some ⟨N,0,none⟩))),(15,.own (some d0) 24 1 [[.sc (.slice V u.head.length Y)],[.sc (.slice X u.words.length Z)]]),(16,.int .i64 2),(17,.int .i64 0),(4,.sc (.slice V u.head.length Y)),(22,.int .i64 u.head.length),(23,.int .i64 i)])
   (λi c=>c++(O++(tw++[(N,AObj.cells 27 [.int .i64 0,.int .i64 0,.int .i64 0,.int .i64 0,.str [],.nil,.nil,.nil]),(M,AObj.cells 27 [.int .i64 0,.int .i64 0,.int .i64 0,.int .i64 u.kind,.str u.label,.sc (.slice V u.head.length Y),.sc (.slice X u.words.length Z),.sc (.slice bk u.kids.length ck)])]))) th ⟨by simpa using ah,(SubN.perm jG).2 bm⟩ (Weak.sub (SubN.perm jG)) (by omega) (λi x r c J D hw=>?_) (λc J hn=>?_)
  ·obtain⟨hO,hN⟩:=J
   rcases hO with⟨h0,_,_⟩|⟨b,pad,rfl,rfl,I,bl,ba,ac⟩
   ·exfalso
    have:=congrArg List.length h0
    have h9:=D.lt
    simp at this
    omega
   ·have E:=nr D
    have hi:i<(((u.head.take i).map Wd.bare++u.head.drop i).map Wd.cs).length:=by rw[E];exact D.lt
    (try simp only[EVz,seval,↓reduceIte,EV6,EV7,D.yes,D.le0,D.lt',hw,Nat.zero_add,append_eq])
    refine⟨by rw[ac];rw[E]at I;have:=D.lt;omega,?_⟩
    rw[dS (sz:=4) (off:=1) (c:=[.int .i64 0,.int .i64 0,.int .i64 0]) (by decide) ba hi,lV D hi]
    (try simp only[EVz,seval,↓reduceIte,EV6,EV7,hw,append_eq])
    refine ap D [(b,.cells 33 ((((u.head.take (i+1)).map Wd.bare++u.head.drop (i+1)).map Wd.cs).flatten++pad))] ⟨.inr ⟨b,pad,rfl,rfl,?_,bl,iQ _,?_⟩,by simpa[Store.keys]using hN⟩ (Weak.rfl' _ _)
    ·rw[gF D];rw[E]at I;exact I
    ·rw[←ac,length_append,length_append,au _ (iQ _),au _ (iQ _),gF D,E]
  ·obtain⟨hO,hN⟩:=J
   rw[take_length,drop_length,append_nil]at hO
   (try simp only[EVz,seval,↓reduceIte,EV6,EV7,hn])
   refine⟨(1,c,tw),⟨by omega,by simpa using hO,by simpa using al,(SubN.perm jG.symm).2 hN⟩,by simp,?_⟩
   exact Weak.sub (SubN.perm jG.symm)
 ·simp only[Nat.lt_irrefl,if_false,show(0<1)by omega,if_true]at ah al
  (try simp only[EVz,seval,↓reduceIte,EV6,EV7,append_eq])
  have e7:∀(i:Nat) (x:Wd),True:=λ_ _=>trivial
  refine ay (ι:=Store) u.words (λi r c=>fI 33 4 (((u.words.take i).map Wd.bare++u.words.drop i).map Wd.cs) X Z c/\(Store.keys (c++(O++(th++[(N,AObj.cells 27 [.int .i64 0,.int .i64 0,.int .i64 0,.int .i64 0,.str [],.nil,.nil,.nil]),(M,AObj.cells 27 [.int .i64 0,.int .i64 0,.int .i64 0,.int .i64 u.kind,.str u.label,.sc (.slice V u.head.length Y),.sc (.slice X u.words.length Z),.sc (.slice bk u.kids.length ck)])])))).Nodup)
   (λi c=>[(1,.sc (.pointer (some ⟨M,0,none⟩))),(2,.sc (.pointer (some ⟨N,0,none⟩))),(15,.own (some d0) 24 1 [[.sc (.slice V u.head.length Y)],[.sc (.slice X u.words.length Z)]]),(16,.int .i64 2),(17,.int .i64 1),(4,.sc (.slice X u.words.length Z)),(22,.int .i64 u.words.length),(23,.int .i64 i)])
   (λi c=>c++(O++(th++[(N,AObj.cells 27 [.int .i64 0,.int .i64 0,.int .i64 0,.int .i64 0,.str [],.nil,.nil,.nil]),(M,AObj.cells 27 [.int .i64 0,.int .i64 0,.int .i64 0,.int .i64 u.kind,.str u.label,.sc (.slice V u.head.length Y),.sc (.slice X u.words.length Z),.sc (.slice bk u.kids.length ck)])]))) tw ⟨by simpa using al,(SubN.perm iU).2 bm⟩ (Weak.sub (SubN.perm iU)) (by omega) (λi x r c J D hw=>?_) (λc J hn=>?_)
  ·obtain⟨hO,hN⟩:=J
   rcases hO with⟨h0,_,_⟩|⟨b,pad,rfl,rfl,I,bl,ba,ac⟩
   ·exfalso
    have:=congrArg List.length h0
    have h9:=D.lt
    simp at this
    omega
   ·have E:=nr D
    have hi:i<(((u.words.take i).map Wd.bare++u.words.drop i).map Wd.cs).length:=by rw[E];exact D.lt
    (try simp only[EVz,seval,↓reduceIte,EV6,EV7,D.yes,D.le0,D.lt',hw,Nat.zero_add,append_eq])
    refine⟨by rw[ac];rw[E]at I;have:=D.lt;omega,?_⟩
    rw[dS (sz:=4) (off:=1) (c:=[.int .i64 0,.int .i64 0,.int .i64 0]) (by decide) ba hi,lV D hi]
    (try simp only[EVz,seval,↓reduceIte,EV6,EV7,hw,append_eq])
    refine ap D [(b,.cells 33 ((((u.words.take (i+1)).map Wd.bare++u.words.drop (i+1)).map Wd.cs).flatten++pad))] ⟨.inr ⟨b,pad,rfl,rfl,?_,bl,iQ _,?_⟩,by simpa[Store.keys]using hN⟩ (Weak.rfl' _ _)
    ·rw[gF D];rw[E]at I;exact I
    ·rw[←ac,length_append,length_append,au _ (iQ _),au _ (iQ _),gF D,E]
  ·obtain⟨hO,hN⟩:=J
   rw[take_length,drop_length,append_nil]at hO
   (try simp only[EVz,seval,↓reduceIte,EV6,EV7,hn])
   refine⟨(2,th,c),⟨by omega,by simpa using ah,by simpa using hO,(SubN.perm iU.symm).2 hN⟩,by simp,?_⟩
   exact Weak.sub (SubN.perm iU.symm)
 ·simp only[show(0<2)by omega,show(1<2)by omega,if_true]at ah al
  have d1:=jM bm
  have bb:M∉tw.keys:=cn d1 (by simp[Store.keys])
  have bd:N∉tw.keys:=cn d1 (by simp[Store.keys])
  have dc:=jM d1
  have be:M∉th.keys:=cn dc (by simp[Store.keys])
  have bi:N∉th.keys:=cn dc (by simp[Store.keys])
  (try simp only[EVz,seval,↓reduceIte,EV6,EV7,ak bb,ak bd,am bb,am bd,ak be,ak bi,am be,am bi,F,T,append_eq,append_assoc,ak an,ak aw,am an,am aw])
  refine ay (ι:=Store) u.kids (λi r c=>fI 27 8 (((u.kids.take i).map U.strip++u.kids.drop i).map U.cs) bk ck c/\(Store.keys (c++(tw++(th++[(N,AObj.cells 27 [.int .i64 0,.int .i64 0,.int .i64 0,.int .i64 0,.str [],.nil,.nil,.nil]),(M,AObj.cells 27 [.int .i64 0,.int .i64 0,.int .i64 0,.int .i64 u.kind,.str u.label,.sc (.slice V u.head.length Y),.sc (.slice X u.words.length Z),.sc (.slice bk u.kids.length ck)])])))).Nodup)
   (λi c=>[(1,.sc (.pointer (some ⟨M,0,none⟩))),(2,.sc (.pointer (some ⟨N,0,none⟩))),(35,.int .i64 u.kids.length),(36,.int .i64 i)]) (λi c=>c++(tw++(th++[(N,AObj.cells 27 [.int .i64 0,.int .i64 0,.int .i64 0,.int .i64 0,.str [],.nil,.nil,.nil]),(M,AObj.cells 27 [.int .i64 0,.int .i64 0,.int .i64 0,.int .i64 u.kind,.str u.label,.sc (.slice V u.head.length Y),.sc (.slice X u.words.length Z),.sc (.slice bk u.kids.length ck)])]))) O ⟨by simpa using e1,bm⟩ (Weak.rfl' _ _) (by omega) (λi x r c J D hw=>?_) (λc J hn=>?_)
  ·obtain⟨hO,hN⟩:=J
   rcases hO with⟨h0,_,_⟩|⟨b,pad,rfl,rfl,I,bl,ba,ac⟩
   ·exfalso
    have:=congrArg List.length h0
    have h9:=D.lt
    simp at this
    omega
   ·have bu:=mix_len (g:=U.strip) (f:=U.cs) D
    have hi:i<(((u.kids.take i).map U.strip++u.kids.drop i).map U.cs).length:=by rw[bu];exact D.lt
    have e3:¬b=M:=by
     intro e
     subst e
     exact cn hN (b:=b) (by simp[Store.keys]) (by simp[Store.keys])
    have ds:=jk (pad:=pad) ba hi
    rw[mA D hi]at ds
    have e5:8<=((List.map U.cs (List.map U.strip (List.take i u.kids)++List.drop i u.kids)).flatten++pad).length-i*8:=by rw[ac];rw[bu]at I;have:=D.lt;omega
    have d2:=dS (sz:=8) (off:=0) (c:=x.strip.cs) (by rw[U.cs_len];omega) (pad:=pad) ba hi
    rw[oL D hi,Nat.add_zero]at d2
    have e6:=ih x D.mem (hs.kid D.mem)
    (repeat' (first|(with_reducible first|refine AI (by omega) ?_|refine aa e6 ?_)|simp only[EVz,seval,↓reduceIte,EV6,EV7,D.yes,D.le0,D.lt',hw,e3,F,T,ak bb,ak bd,ak be,ak bi,Nat.zero_add,append_eq,ds,d2,length_drop,U.cs_len]|(with_reducible first|refine ae ?_ ?_|refine af ?_)))
    all_goals
     (try rw[d2])
     refine ap D [(b,.cells 27 ((((u.kids.take (i+1)).map U.strip++u.kids.drop (i+1)).map U.cs).flatten++pad))] ⟨.inr ⟨b,pad,rfl,rfl,?_,bl,dZ _,?_⟩,by simpa[Store.keys]using hN⟩ (Weak.rfl' _ _)
     ·rw[kC D];rw[bu]at I;exact I
     ·rw[←ac,length_append,length_append,au _ (dZ _),au _ (dZ _),kC D,bu]
  ·obtain⟨hO,hN⟩:=J
   rw[take_length,drop_length,append_nil]at hO
   have d3:M∉c.keys:=cn hN (by simp[Store.keys])
   have d4:N∉c.keys:=cn hN (by simp[Store.keys])
   (try simp only[EVz,seval,↓reduceIte,EV6,EV7,hn,ak bb,ak bd,am bb,am bd,ak be,ak bi,am be,am bi,F,T,append_eq,append_assoc,ak d3,ak d4,am d3,am d4])
   refine RET.mk' (σ':=c++(tw++th)) (SubN.app (SubN.app SubN.appL)) ⟨V,Y,th,X,Z,tw,bk,ck,c,?_,rfl,?_,?_,?_⟩
   ·rw[U.strip_eq];simp
   ·rw[U.strip_eq];exact ah
   ·rw[U.strip_eq];exact al
   ·rw[U.strip_eq];exact hO
end
theorem U.lone_short {u:U} (E:u.Short):u.lone.Short:=by
 have I:=E.2 u u.flat_self
 have D:=(U.fit_eq u).1 E.1.1
 have e:u.lone.flat=[u.lone]:=by rw[U.flat_eq];show _::U.flats []=_;rw[pp]
 refine⟨⟨(U.fit_eq _).2 ⟨D.1,D.2.1,D.2.2.1,by simp[U.lone],by simp[U.lone]⟩,by rw[e];simp⟩,?_⟩
 intro x F
 rw[e,mem_singleton]at F
 subst F
 exact I
theorem fit_strip:∀u:U,u.fit->u.strip.fit:=by
 refine U.ind λu ih J=>?_
 obtain⟨a,⟨b,I⟩,⟨c,c2⟩,d,e⟩:=(U.fit_eq u).1 J
 rw[U.strip_eq]
 refine(U.fit_eq _).2 ⟨a,⟨by simpa using b,?_⟩,⟨by simpa using c,?_⟩,by simpa using d,?_⟩
 ·intro x D
  obtain⟨w,E,rfl⟩:=mem_map.1 D
  exact I w E
 ·intro x D
  obtain⟨w,E,rfl⟩:=mem_map.1 D
  exact c2 w E
 ·intro x D
  obtain⟨k,F,rfl⟩:=mem_map.1 D
  exact ih k F (e k F)
theorem jw {u:U} (E:u.Short):u.strip.Short:=by
 refine⟨⟨fit_strip u E.1.1,by rw[eA,length_map];exact E.1.2⟩,?_⟩
 intro x I
 rw[eA]at I
 obtain⟨y,V,rfl⟩:=mem_map.1 I
 obtain⟨J,M,N,O,T⟩:=E.2 y V
 rw[U.strip_eq]
 refine⟨J,by simpa using M,by simpa using N,?_,?_⟩
 ·intro w F
  obtain⟨w',D,rfl⟩:=mem_map.1 F
  exact O w' D
 ·intro w F
  obtain⟨w',D,rfl⟩:=mem_map.1 F
  exact T w' D
theorem U.Short.node {u x:U} (F:u.Short) (D:x∈u.flat):x.Short:=by
 induction u using U.ind with
 |h u ih=>
  rw[U.flat_eq]at D
  rcases mem_cons.1 D with rfl|D
  ·exact F
  ·obtain⟨k,E,D⟩:=pR D
   exact ih k E (F.kid E) D
theorem repeat2 (n:Nat):Lib.repeatL [32,32] n=List.replicate (2*n) 32:=by
 induction n with
 |zero=>rfl
 |succ n ih=>rw[Lib.repeatL,ih,Nat.mul_add];simp[replicate_succ]
theorem kR {τ:Store} {w:World} {b:Nat}:∀(xs:List (List UInt8)) (i:Nat),ar τ w ⟨b,0,none⟩ 1 i (xs.map srow)->∀(j:Nat) x,xs[j]? =some x->w.cell? ⟨b,i+j,none⟩=some (.string ⟨⟨x⟩⟩)
 |[],i,_,j,x,hx=>by simp at hx
 |y::xs,i,h,j,x,hx=>by
  simp only[srow,map_cons,ar,RepAt,Rep]at h
  obtain⟨_,⟨⟨u,D,_,rfl⟩,_⟩,E⟩:=h
  cases j with
  |zero=>
   simp at hx
   subst hx
   have e:(⟨b,0,none⟩:Addr).add (i*1)=⟨b,i,none⟩:=by unfold Addr.add;by_cases hi:i=0<;>simp[hi]
   have:=D.1
   rw[e]at this
   exact this
  |succ j=>
   have:=kR xs (i+1) E j x (by simpa using hx)
   rw[show i+(j+1)=i+1+j by omega]
   exact this
section
variable (G:Glob)
theorem f320 (n:Nat) (N:n<=8):Pure G Tryz.prog 320 [.str [32,32],.int .i64 n] (.str (List.replicate (2*n) 32)):=by
 refine Pure.of_calls Tryz.func320 (by kernel_rfl) (by kernel_rfl) λτ w vs M I=>?_
 obtain⟨u,v,rfl,E,F⟩:=ji I
 simp only[Rep]at E F
 subst E F
 refine⟨.string ⟨⟨List.replicate (2*n) 32⟩⟩,λ_ _=>by simp only[Rep],?_⟩
 have D:(⟨⟨[32,32]⟩⟩:ByteArray).size=2:=rfl
 refine(Tryz.strings_Repeat ⟨⟨[32,32]⟩⟩ n w (by omega) (by rw[D];omega)).mono ?_
 rintro e w' ⟨rfl,J⟩
 exact⟨by rw[←repeat2],J⟩
theorem f279 (g:Option Nat) (xs:List (List UInt8)) (D:List UInt8) (hn:xs.length<=1000000) (Z:(Lib.join xs D).length<=140737488355328):Pure G Tryz.prog 279 [.own g 9 1 (xs.map srow),.str D] (.str (Lib.join xs D)):=by
 refine Pure.of_calls Tryz.func279 (by kernel_rfl) (by kernel_rfl) λτ w vs hS X=>?_
 obtain⟨u,v,rfl,I,O⟩:=ji X
 simp only[Rep]at O
 subst O
 refine⟨.string ⟨⟨Lib.join xs D⟩⟩,λ_ _=>by simp only[Rep],?_⟩
 have E:∀a c,xs=[]->Calls Tryz.prog 279 #[.slice a 0 c,.string ⟨⟨D⟩⟩] w λe w'=>e= .returned (.string ⟨⟨Lib.join xs D⟩⟩)/\Below w.heap.size w w':=by
  rintro a c rfl
  refine(Tryz.strings_Join_none a c ⟨⟨D⟩⟩ w).mono ?_
  rintro e w' ⟨rfl,rfl⟩
  exact⟨rfl,Below.refl _ _⟩
 cases g with
 |none=>
  simp only[Rep]at I
  obtain⟨rfl,M⟩:=I
  exact E _ _ (by simpa using M)
 |some b=>
  simp only[Rep]at I
  obtain⟨cap,rfl,T,hm,J,hr⟩:=I
  rw[length_map]at T ⊢
  by_cases M:xs=[]
  ·subst M
   exact E _ _ rfl
  ·have N:(xs.map (λx=>(⟨⟨x⟩⟩:ByteArray))).map (·.data.toList)=xs:=by rw[map_map];exact map_id xs
   have Y:b<w.heap.size:=by
    rcases Nat.lt_or_ge b w.heap.size with h|h
    ·exact h
    ·have:w.heap[b]? =none:=Array.getElem?_eq_none h
     simp[World.shape?,this]at J
   have F:∀(j:Nat) x,(xs.map (λx=>(⟨⟨x⟩⟩:ByteArray)))[j]? =some x->w.cell? ⟨b,0+j,none⟩=some (.string x):=by
    intro j x V
    simp only[getElem?_map,Option.map_eq_some_iff]at V
    obtain⟨y,hy,rfl⟩:=V
    exact kR xs 0 hr j y hy
   have h:=Tryz.strings_Join b 0 cap (xs.map (λx=>(⟨⟨x⟩⟩:ByteArray))) ⟨⟨D⟩⟩ w F Y (by simp;omega) (by simpa using T) (by rw[N];exact Z)
   rw[N,length_map]at h
   exact h
theorem f321 (s:List UInt8) (l:List Wd) (hs:s.length<=1000000) (J:aU l=true):Pure G Tryz.prog 321 [.str s,.lst 4 (l.map Wd.cs)] (.str (s++pv l)):=by
 have hl:=row_len J
 refine Pure.w c321 λR O=>?_
 unfold s321 r321
 (repeat' (first|(with_reducible (first|refine ab (λh=>?_) (λh=>?_)|refine ai (λh=>?_) (λh=>?_))<;>(try simp only[DZ]at h))|(with_reducible refine AI (by omega) ?_)|simp only[EVz,seval,↓reduceIte,EV6,EV7,length_append,length_cons,length_nil,E.yes,E.le0,E.lt',E.get,E.row,Z]|simp only[EVz,seval,↓reduceIte,EV6,EV7,length_append,length_cons,length_nil,V]|simp only[EVz,seval,↓reduceIte,EV6,EV7,length_append,length_cons,length_nil]|(with_reducible intro M F;(try(have I:=F;simp only[EVK]at I;(have X:=I))))|(refine ay (ι:=List UInt8) (l) (λi r c=>s++pv l=c++pv r/\c.length<=s.length+i*26) (λi c=>[(0,.str c),(7,.lst 4 (l.map Wd.cs)),(8,.int .i64 l.length),(9,.int .i64 i)]) (λ_ _=>[]) (s) (by((simp;done))) (Weak.rfl' _ _) (by omega) (λi x r c D E Z=>?_) (λc D V=>?_)<;>(try(obtain⟨hp,Y⟩:=qK J E.mem;have T:=E.lt)))|(refine ap E _ ?_ (Weak.sub (SubN.nil _)))))
 ·rw[D.1]
  have e:escT x.text=92::x.text:=by unfold escT;rw[if_pos];right;exact UInt8.toNat_inj.1 (by show _=92;omega)
  exact⟨by simp[pv,e],by omega⟩
 ·rename_i N
  rw[D.1]
  have e:escT x.text=x.text:=by
   unfold escT
   rw[if_neg]
   rintro(h3|h3)
   ·exact N (by rw[h3];rfl)
   ·exact h (by rw[h3];rfl)
  exact⟨by simp[pv,e],by omega⟩
 ·rw[D.1]
  have e:escT x.text=92::x.text:=by unfold escT;rw[if_pos];left;exact UInt8.toNat_inj.1 (by show _=124;omega)
  exact⟨by simp[pv,e],by omega⟩
 ·exact RET.eq O (by rw[D.1];simp[pv])
end
theorem lone_cs (u:U):u.lone.cs=[.int .i64 0,.int .i64 0,.int .i64 0,.int .i64 u.kind,.str u.label,.lst 4 (u.head.map Wd.cs),.lst 4 (u.words.map Wd.cs),.lst 8 []]:=by rw[U.cs_eq];rfl
section
variable (G:Glob) (hG:GOk G)
include hG
theorem f319 (u:U) (d:Int) (J:u.Short):Pure G Tryz.prog 319 [.agg u.cs,.int .i64 d] (.bool ((decide (0<=d)&&decide (d<=8))&&px u)):=by
 have F:=f307 G u.lone (U.lone_short J)
 have I:=f200 G hG u.lone.strip (jw (U.lone_short J))
 rw[tree_lone]at I
 rw[lone_cs]at F
 rw[U.cs_eq u]
 refine Pure.w c319 λR N=>?_
 unfold s319 r319
 (repeat' (first|(with_reducible (refine ai (λh=>?_) (λh=>?_))<;>(try simp only[DZ]at h))|(with_reducible refine aa I ?_)|simp only[EVz,seval,↓reduceIte,EV6,EV7]|(with_reducible intro M D;(try(have E:=D;simp only[EVK]at E;(have O:=E))))|(refine aE F ⟨.inr ⟨.inl rfl,.inl rfl,.inl rfl,.inl rfl,.inl rfl,.inl rfl,.inl rfl,.inr rfl,trivial⟩,trivial⟩ ?_)))
 all_goals(refine RET.eq N (congrArg AV.bool ?_);first|(simp[*];done)|(rw[decide_eq_false (p:=0<=d) (by omega)];rfl)|(rw[decide_eq_false (p:=d<=8) (by omega),Bool.and_false];rfl))
theorem f309 (u:U) (n:Nat) (F:u.Short) (hn:n<=1000000):Pure G Tryz.prog 309 [.agg u.cs,.int .i64 n] (.str (pB u n)):=by
 have J:=f319 G hG u n F
 have E:=f292 G hG u.kind
 refine Pure.w c309 λR I=>?_
 unfold s309 r309
 by_cases D:px u=true/\n<=8
 ·obtain⟨Y,Z,V,X,al⟩:=pY D.1
  have b1:=pK V
  have b2:=pK X
  have b3:=pS u.kind
  have T:=f320 G n D.2
  rw[D.1,Bool.and_true,show(decide ((0:Int)<=n)&&decide ((n:Int)<=8))=true by simp;omega]at J
  rw[if_pos ⟨Y,Z⟩]at E
  have M:pB u n=lineT u n:=by unfold pB;rw[if_pos ⟨D.2,D.1⟩]
  rw[M]at I
  have N:=λs F=>f321 G s u.head F V
  have O:=λs F=>f321 G s u.words F X
  (repeat' (first|(with_reducible (refine ab (λh=>?_) (λh=>?_))<;>(try simp only[DZ]at h))|(with_reducible first|refine AI (by omega) ?_|refine aa J ?_|refine aa E ?_|refine aa T ?_|refine aa (N _ (by simp;omega)) ?_|refine aa (O _ (by simp;omega)) ?_)|simp only[EVz,seval,↓reduceIte,EV6,EV7,length_append,length_cons,length_nil,length_replicate]))
  all_goals(refine RET.eq I (congrArg AV.str ?_);unfold lineT;(repeat first|rw[if_pos (by omega)]|rw[if_neg (by omega)]);simp;done)
 ·have e:((decide ((0:Int)<=n)&&decide ((n:Int)<=8))&&px u)=false:=by
   rw[Bool.eq_false_iff]
   intro h
   simp at h
   exact D ⟨h.2,by omega⟩
  rw[e]at J
  have M:pB u n=[]:=by unfold pB;rw[if_neg (λh=>D ⟨h.2,h.1⟩)]
  rw[M]at I
  (repeat' (first|(with_reducible refine aa J ?_)|simp only[EVz,seval,↓reduceIte,EV6,EV7]))
  (all_goals((exact RET.eq I rfl)))
end
end Go.Av
