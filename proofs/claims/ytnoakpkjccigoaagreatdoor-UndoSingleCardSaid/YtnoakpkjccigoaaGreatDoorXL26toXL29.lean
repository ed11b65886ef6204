/-
  LINT, 26: copies of lists.
-/
import Derived.Test.YtnoakpkjccigoaaGreatDoorXC1
import Derived.Test.YtnoakpkjccigoaaGreatDoorXC2
import Derived.Test.YtnoakpkjccigoaaGreatDoorXC3toXL4
import Derived.Test.YtnoakpkjccigoaaGreatDoorXE10toXAv27
import Derived.Test.YtnoakpkjccigoaaGreatDoorXL13toXFrE
namespace Go.Av
open Go Go.RowKit Go.Proofs List
set_option linter.unusedSimpArgs false
set_option linter.unusedVariables false
theorem iQ (l:List Wd):∀r∈l.map Wd.cs,r.length=4:=by
 intro r hr
 obtain⟨w,_,rfl⟩:=mem_map.1 hr
 rfl
theorem dZ (l:List U):∀r∈l.map U.cs,r.length=8:=by
 intro r hr
 obtain⟨w,_,rfl⟩:=mem_map.1 hr
 exact U.cs_len w
theorem ed {e:TypeId} {sz:Nat} {v:Value} (h:la v):bD e sz [] (.sc v) []:=by
 rcases h with rfl|⟨a,rfl⟩
 ·exact⟨none,0,rfl,.inl ⟨rfl,rfl,rfl⟩⟩
 ·exact⟨some a,0,rfl,.inl ⟨rfl,rfl,rfl⟩⟩
theorem RET.le {x y:AV} {R:AV->Store->Prop} {σ σ':Store} (hl:AVle x y) (hs:SubN σ' σ) (h:R y σ'):RET x σ R:=⟨y,σ',hl,hs,h⟩
theorem RET.mk' {x:AV} {R:AV->Store->Prop} {σ σ':Store} (hs:SubN σ' σ) (h:R x σ'):RET x σ R:=⟨x,σ',AVle.rfl' _,hs,h⟩
section
variable (G:Glob)
theorem f86 (l:List Wd) (hl:l.length<1000000):ag G Tryz.prog 86 [.lst 4 (l.map Wd.cs)] [] (λr σ=>bD 33 4 (l.map Wd.cs) r σ):=by
 obtain⟨rows,hrows⟩:∃rows,l.map Wd.cs=rows:=⟨_,rfl⟩
 have hlen:rows.length=l.length:=by rw[←hrows,length_map]
 have hsz:∀r∈rows,r.length=4:=by rw[←hrows];exact iQ l
 rw[hrows]
 refine ag.w c86 ?_
 unfold s86 r86
 simp only[EV1,EV2,EV3,EV4,EV5,Option.map_some,decide_true,decide_false,seval,↓reduceIte,eq_self]
 intro bb hbb
 refine ab (λh=>?_) (λh=>?_)
 ·simp only[EV1,EV2,EV3,EV4,EV5,Option.map_some,decide_true,decide_false,seval,↓reduceIte,eq_self]
  have h0:rows=[]:=by
   rcases Classical.em (rows=[])with h1|h1
   ·exact h1
   ·rw[hbb h1]at h;cases h
  subst h0
  exact RET.le (y:=.sc (.slice none 0 0)) (Or.inl (Or.inr rfl)) (SubN.refl _) (ed (.inl rfl))
 ·simp only[EV1,EV2,EV3,EV4,EV5,Option.map_some,decide_true,decide_false,seval,↓reduceIte,eq_self]
  refine fV (e:=33) (n:=4) (by kernel_rfl) (by kernel_rfl) (λv hv=>?_)
  simp only[EV1,EV2,EV3,EV4,EV5,Option.map_some,decide_true,decide_false,seval,↓reduceIte,eq_self]
  refine bY (e:=33) (e':=33) (sz:=4) (bytes:=40) (rows:=[]) (ys:=rows) (g:=none) (xv:=.sc v) (by kernel_rfl) (by kernel_rfl) (by kernel_rfl) (by kernel_rfl) (by decide) (by decide) rfl (.inl ⟨rfl,rfl,.inr ⟨v,rfl,hv⟩⟩) ?_ ?_ ?_ ?_
  ·exact⟨rfl,rfl⟩
  ·simp;omega
  ·intro _ h0
   simp only[EV1,EV2,EV3,EV4,EV5,Option.map_some,decide_true,decide_false,seval,↓reduceIte,eq_self]
   subst h0
   exact RET.mk' (SubN.refl _) (ed hv)
  ·intro b cap pad hb hle hcm hr2 hln
   simp only[EV1,EV2,EV3,EV4,EV5,Option.map_some,decide_true,decide_false,seval,↓reduceIte,eq_self]
   simp only[nil_append]at*
   exact RET.mk' (SubN.refl _) ⟨_,_,rfl,.inr ⟨b,pad,rfl,rfl,hle,hcm,hr2,hln⟩⟩
end
theorem cn {σ τ:Store} (h:(σ++τ:Store).keys.Nodup) {b:Nat} (hb:b∈τ.keys):b∉σ.keys:=by
 rw[az]at h
 exact λhm=>(nodup_append.1 h).2.2 b hm b hb rfl
theorem jM {σ τ:Store} (h:(σ++τ:Store).keys.Nodup):τ.keys.Nodup:=by
 rw[az]at h
 exact(nodup_append.1 h).2.1
def ko (u:U) (r:AV) (σ:Store):Prop:=
 ∃bh ch σh bw cw σw bk ck σk,r= .agg [.int .i64 u.id.act,.int .i64 u.id.item,.int .i64 u.id.n,.int .i64 u.kind,.str u.label,.sc (.slice bh u.head.length ch),.sc (.slice bw u.words.length cw),.sc (.slice bk u.kids.length ck)]/\
  σ=σk++(σw++σh)/\fI 33 4 (u.head.map Wd.cs) bh ch σh/\fI 33 4 (u.words.map Wd.cs) bw cw σw/\fI 27 8 (u.kids.map U.cs) bk ck σk
theorem ko.freeze {G:Glob} {P:Program} {k:FuncId} {args:List AV} {u:U} (h:ag G P k args [] (ko u)):Pure G P k args (.agg u.cs):=by
 refine ag.freeze (ag.mono h ?_)
 rintro r σ' ⟨bh,ch,σh,bw,cw,σw,bk,ck,σk,rfl,rfl,h1,h2,h3⟩
 refine⟨_,rfl,?_⟩
 rw[U.cs_eq]
 refine⟨.inl rfl,.inl rfl,.inl rfl,.inl rfl,.inl rfl,.inr ⟨_,_,_,σh,⟨bh,ch,by simp,h1⟩,?_,rfl⟩,.inr ⟨_,_,_,σw,⟨bw,cw,by simp,h2⟩,?_,rfl⟩,.inr ⟨_,_,_,σk,⟨bk,ck,by simp,h3⟩,?_,rfl⟩,trivial⟩<;>
 ·intro p hp
  simp only[mem_append]
  simp[hp]
abbrev KS:=Option (Nat×Nat×List AV)
def kAV (c:KS) (n:Nat):AV:=match c with
 |none=>.nil
 |some (b,cap,_)=>.sc (.slice (some ⟨b,0,none⟩) n cap)
def kSt (c:KS) (rows:List (List AV)):Store:=match c with
 |none=>[]
 |some (b,_,pad)=>[(b,.cells 27 (rows.flatten++pad))]
def kOk (c:KS) (rows:List (List AV)):Prop:=match c with
 |none=>rows=[]
 |some (b,cap,pad)=>rows.length<=cap/\cap<=maxLen/\(∀r∈rows,r.length=8)/\(rows.flatten++pad).length=cap*8
theorem kWS {c:KS} {rows:List (List AV)} (h:kOk c rows):WS (kSt c rows) 27 8 (kAV c rows.length) rows (c.map (·.1)):=by
 cases c with
 |none=>exact .inl ⟨h,rfl,.inl rfl⟩
 |some p=>
  obtain⟨b,cap,pad⟩:=p
  obtain⟨h1,h2,h3,h4⟩:=h
  exact .inr ⟨b,cap,pad,rfl,rfl,by simp[kSt,Store.get],h3,h4,h1,h2⟩
theorem kErase (c:KS) (rows:List (List AV)):(kSt c rows).erase (c.map (·.1))=[]:=by
 cases c with
 |none=>rfl
 |some p=>obtain⟨b,cap,pad⟩:=p;simp[kSt,Store.erase]
theorem kS {c:KS} {rows:List (List AV)} (h:kOk c rows):∃base cap,aR (kAV c rows.length) (.sc (.slice base rows.length cap))/\fI 27 8 rows base cap (kSt c rows):=by
 cases c with
 |none=>
  have h:rows=[]:=h
  subst h
  exact⟨none,0,.inr rfl,.inl ⟨rfl,rfl,rfl⟩⟩
 |some p=>
  obtain⟨b,cap,pad⟩:=p
  obtain⟨h1,h2,h3,h4⟩:=h
  exact⟨some ⟨b,0,none⟩,cap,.inl rfl,.inr ⟨b,pad,rfl,rfl,h1,h2,h3,h4⟩⟩
section
variable (G:Glob)
set_option maxHeartbeats 2000000 in
theorem f84:∀(u:U),u.Short->ag G Tryz.prog 84 [.agg u.cs] [] (ko u):=by
 refine U.ind λu ih hs=>?_
 have h0:=hs.2 u u.flat_self
 have hkl:=hs.1.kids
 have hCh:=f86 G u.head h0.2.1
 have hCw:=f86 G u.words h0.2.2.1
 rw[U.cs_eq u]
 refine ag.w c84 ?_
 unfold s84 r84
 (try simp only[EVz,seval,↓reduceIte,EV6,EV7])
 intro b1 hb1 b2 hb2
 have hb12:¬b1=b2:=by simp only[EVK]at hb2;exact λe=>hb2 e.symm
 have hb21:¬b2=b1:=λe=>hb12 e.symm
 (repeat' (first|simp only[EVz,seval,↓reduceIte,EV6,EV7,hb12,hb21]|(with_reducible refine ae ?_ ?_)|fail))
 all_goals(
  refine av [] _ hCh.v (ax.rfl' _) (SubN.refl _) ?_
  rintro _ σh ⟨bh,ch,rfl,hOh⟩ hnd1
  have h11:b1∉σh.keys:=cn hnd1 (by simp[Store.keys])
  have h12:b2∉σh.keys:=cn hnd1 (by simp[Store.keys])
  (try simp only[EVz,seval,↓reduceIte,EV6,EV7,ak h11,ak h12,am h11,am h12,hb12,hb21])
  refine av [] _ hCw.v (ax.rfl' _) (SubN.refl _) ?_
  rintro _ σw ⟨bw,cw,rfl,hOw⟩ hnd2
  have h21:b1∉σw.keys:=cn hnd2 (by simp[Store.keys])
  have h22:b2∉σw.keys:=cn hnd2 (by simp[Store.keys])
  (try simp only[EVz,seval,↓reduceIte,EV6,EV7,ak h11,ak h12,am h11,am h12,ak h21,ak h22,am h21,am h22,hb12,hb21,append_eq]))
 all_goals(
  refine af ?_
  (try simp only[EVz,seval,↓reduceIte,EV6,EV7,ak h11,ak h12,am h11,am h12,ak h21,ak h22,am h21,am h22,hb12,hb21,append_eq])
  have hnd3:Store.keys (σw++(σh++[(b2,AObj.cells 27 [.int .i64 0,.int .i64 0,.int .i64 0,.int .i64 0,.str [],.nil,.nil,.nil]),(b1,AObj.cells 27 [.int .i64 u.id.act,.int .i64 u.id.item,.int .i64 u.id.n,.int .i64 u.kind,.str u.label,.sc (.slice bh u.head.length ch),.sc (.slice bw u.words.length cw),.lst 8 (u.kids.map U.cs)])]))|>.Nodup:=by
   simp only[append_eq]at hnd2
   simpa[Store.keys]using hnd2
  refine ay (ι:=KS) u.kids (λi r c=>kOk c ((u.kids.take i).map U.cs)/\(Store.keys (kSt c ((u.kids.take i).map U.cs)++(σw++(σh++[(b2,AObj.cells 27 [.int .i64 0,.int .i64 0,.int .i64 0,.int .i64 0,.str [],.nil,.nil,.nil]),(b1,AObj.cells 27 [.int .i64 u.id.act,.int .i64 u.id.item,.int .i64 u.id.n,.int .i64 u.kind,.str u.label,.sc (.slice bh u.head.length ch),.sc (.slice bw u.words.length cw),.lst 8 (u.kids.map U.cs)])])))).Nodup)
   (λi c=>[(1,.sc (.pointer (some ⟨b1,0,none⟩))),(2,.sc (.pointer (some ⟨b2,0,none⟩))),(3,kAV c i),(15,.lst 8 (u.kids.map U.cs)),(16,.int .i64 u.kids.length),(17,.int .i64 i)])
   (λi c=>kSt c ((u.kids.take i).map U.cs)++(σw++(σh++[(b2,AObj.cells 27 [.int .i64 0,.int .i64 0,.int .i64 0,.int .i64 0,.str [],.nil,.nil,.nil]),(b1,AObj.cells 27 [.int .i64 u.id.act,.int .i64 u.id.item,.int .i64 u.id.n,.int .i64 u.kind,.str u.label,.sc (.slice bh u.head.length ch),.sc (.slice bw u.words.length cw),.lst 8 (u.kids.map U.cs)])]))) none ⟨rfl,hnd3⟩ (Weak.rfl' _ _) (by omega) (λi x r c hok hx hw=>?_) (λc hok hn=>?_)
  ·have hil:((u.kids.take i).map U.cs).length=i:=by rw[length_map,length_take];have:=hx.lt;omega
   have hws:=kWS hok.1
   rw[hil]at hws
   (try simp only[EVz,seval,↓reduceIte,EV6,EV7,hx.yes,hx.le0,hx.lt',hx.row,hw,hx.get,ak h11,ak h12,am h11,am h12,ak h21,ak h22,am h21,am h22,hb12,hb21,append_eq])
   intro b5 hb5
   (try simp only[EVz,seval,↓reduceIte,EV6,EV7,hx.yes,hx.le0,hx.lt',hx.row,hw,hx.get,ak h11,ak h12,am h11,am h12,ak h21,ak h22,am h21,am h22,hb12,hb21,append_eq])
   refine aa (ko.freeze (ih x hx.mem (hs.kid hx.mem))) ?_
   (try simp only[EVz,seval,↓reduceIte,EV6,EV7,hx.yes,hx.le0,hx.lt',hx.row,hw,hx.get,ak h11,ak h12,am h11,am h12,ak h21,ak h22,am h21,am h22,hb12,hb21,append_eq])
   intro b6 hb6
   refine⟨[x.cs],rfl,by simp[U.cs_len],by simp,?_⟩
   (try simp only[EVz,seval,↓reduceIte,EV6,EV7,ak h11,ak h12,am h11,am h12,ak h21,ak h22,am h21,am h22,hb12,hb21,append_eq])
   refine oW (kSt c ((u.kids.take i).map U.cs)) (σw++(σh++[(b2,AObj.cells 27 [.int .i64 0,.int .i64 0,.int .i64 0,.int .i64 0,.str [],.nil,.nil,.nil]),(b1,AObj.cells 27 [.int .i64 u.id.act,.int .i64 u.id.item,.int .i64 u.id.n,.int .i64 u.kind,.str u.label,.sc (.slice bh u.head.length ch),.sc (.slice bw u.words.length cw),.lst 8 (u.kids.map U.cs)])])) (((SubN.refl _).tail _).tail _) ?_
   refine bY (e:=27) (e':=27) (sz:=8) (bytes:=120) (rows:=(u.kids.take i).map U.cs) (ys:=[x.cs]) (g:=c.map (·.1)) (xv:=kAV c i) (by kernel_rfl) (by kernel_rfl) (by kernel_rfl) (by kernel_rfl) (by decide) (by decide) rfl hws ⟨rfl,rfl⟩ (by rw[hil];simp only[length_cons,length_nil];have:=hx.lt;omega) (λ_ h=>by cases h) (λb cap pad hb hle hcm hr2 hln hnd=>?_)
   rw[kErase]at hnd ⊢
   have hlen1:((u.kids.take i).map U.cs++[x.cs]).length=i+1:=by rw[length_append,hil];rfl
   have htk:(u.kids.take (i+1)).map U.cs=(u.kids.take i).map U.cs++[x.cs]:=by rw[hx.take];simp
   (try simp only[EVz,seval,↓reduceIte,EV6,EV7,hw,hlen1,ak h11,ak h12,am h11,am h12,ak h21,ak h22,am h21,am h22,hb12,hb21,append_eq])
   refine ap hx (some (b,cap,pad)) ⟨?_,?_⟩ ?_
   ·rw[htk];exact⟨hle,hcm,hr2,hln⟩
   ·rw[htk];exact hnd
   ·rw[htk];exact Weak.rfl' _ _
  ·rw[take_length]at hok ⊢
   obtain⟨bk,ck,hle,hop⟩:=kS hok.1
   rw[length_map]at hle
   have hnk:=hok.2
   have hk1:b1∉(kSt c (u.kids.map U.cs)).keys:=cn hnk (by simp[Store.keys])
   have hk2:b2∉(kSt c (u.kids.map U.cs)).keys:=cn hnk (by simp[Store.keys])
   have fin:∀v:AV,aR v (.sc (.slice bk u.kids.length ck))->RET (.agg [.int .i64 u.id.act,.int .i64 u.id.item,.int .i64 u.id.n,.int .i64 u.kind,.str u.label,.sc (.slice bh u.head.length ch),.sc (.slice bw u.words.length cw),v])
     (kSt c (u.kids.map U.cs)++(σw++(σh++[(b2,AObj.cells 27 [.int .i64 u.id.act,.int .i64 u.id.item,.int .i64 u.id.n,.int .i64 u.kind,.str u.label,.sc (.slice bh u.head.length ch),.sc (.slice bw u.words.length cw),v]),(b1,AObj.cells 27 [.int .i64 u.id.act,.int .i64 u.id.item,.int .i64 u.id.n,.int .i64 u.kind,.str u.label,.sc (.slice bh u.head.length ch),.sc (.slice bw u.words.length cw),v])]))) (ko u):=λv hv=>
    RET.le (y:=.agg [.int .i64 u.id.act,.int .i64 u.id.item,.int .i64 u.id.n,.int .i64 u.kind,.str u.label,.sc (.slice bh u.head.length ch),.sc (.slice bw u.words.length cw),.sc (.slice bk u.kids.length ck)])
     (.inr ⟨.inl rfl,.inl rfl,.inl rfl,.inl rfl,.inl rfl,.inl rfl,.inl rfl,hv,trivial⟩) (SubN.app (SubN.app SubN.appL)) ⟨bh,ch,σh,bw,cw,σw,bk,ck,_,rfl,rfl,by simpa using hOh,by simpa using hOw,by simpa using hop⟩
   rcases c with _|⟨b,cap,pad⟩
   ·simp only[kAV]at*
    (try simp only[EVz,seval,↓reduceIte,EV6,EV7,hn,ak hk1,ak hk2,am hk1,am hk2,ak h11,ak h12,am h11,am h12,ak h21,ak h22,am h21,am h22,hb12,hb21,append_eq])
    exact fin _ hle
   ·simp only[kAV]at*
    (try simp only[EVz,seval,↓reduceIte,EV6,EV7,hn,ak hk1,ak hk2,am hk1,am hk2,ak h11,ak h12,am h11,am h12,ak h21,ak h22,am h21,am h22,hb12,hb21,append_eq])
    exact fin _ hle)
end
theorem mix_len {α:Type} {g:α->α} {f:α->List AV} {l:List α} {i:Nat} {x:α} {r:List α} (hx:Rest l i x r):(((l.take i).map g++l.drop i).map f).length=l.length:=by
 simp;have:=hx.lt;omega
theorem kC {α:Type} {g:α->α} {f:α->List AV} {l:List α} {i:Nat} {x:α} {r:List α} (hx:Rest l i x r):(((l.take (i+1)).map g++l.drop (i+1)).map f).length=l.length:=by
 simp;have:=hx.lt;omega
theorem mA {α:Type} {g:α->α} {f:α->List AV} {l:List α} {i:Nat} {x:α} {r:List α} (hx:Rest l i x r) (hi:i<(((l.take i).map g++l.drop i).map f).length):(((l.take i).map g++l.drop i).map f)[i]=f x:=by
 have h1:=hx.lt
 have h2:=hx.get x
 rw[getElem_map,getElem_append_right (by simp;omega)]
 simp only[length_map,length_take,getElem_drop]
 congr 1
 have e:i+(i-min i l.length)=i:=by omega
 simp only[e]
 simpa[h1]using h2
theorem mix_set {α:Type} {g:α->α} {f:α->List AV} {l:List α} {i:Nat} {x:α} {r:List α} (hx:Rest l i x r):(((l.take i).map g++l.drop i).map f).set i (f (g x))=((l.take (i+1)).map g++l.drop (i+1)).map f:=by
 have h1:=hx.lt
 rw[map_append,set_append_right _ _ (by simp;omega)]
 have e:i-(List.map f (List.map g (List.take i l))).length=0:=by simp;omega
 rw[e,hx.take,map_append,map_append,map_append]
 have h3:l.drop i=x::l.drop (i+1):=by
  rw[drop_eq_getElem_cons h1]
  congr 1
  simpa[h1]using hx.get x
 rw[h3]
 simp
theorem nr {l:List Wd} {i:Nat} {x:Wd} {r:List Wd} (hx:Rest l i x r):(((l.take i).map Wd.bare++l.drop i).map Wd.cs).length=l.length:=mix_len hx
theorem gF {l:List Wd} {i:Nat} {x:Wd} {r:List Wd} (hx:Rest l i x r):(((l.take (i+1)).map Wd.bare++l.drop (i+1)).map Wd.cs).length=l.length:=kC hx
theorem lV {l:List Wd} {i:Nat} {x:Wd} {r:List Wd} (hx:Rest l i x r) (hi:i<(((l.take i).map Wd.bare++l.drop i).map Wd.cs).length):
  (((l.take i).map Wd.bare++l.drop i).map Wd.cs).set i (aH (((l.take i).map Wd.bare++l.drop i).map Wd.cs)[i] 1 [.int .i64 0,.int .i64 0,.int .i64 0])=(((l.take (i+1)).map Wd.bare++l.drop (i+1)).map Wd.cs):=by
 rw[mA hx hi,←mix_set hx]
 rfl
theorem oL {l:List U} {i:Nat} {x:U} {r:List U} (hx:Rest l i x r) (hi:i<(((l.take i).map U.strip++l.drop i).map U.cs).length):
  (((l.take i).map U.strip++l.drop i).map U.cs).set i (aH (((l.take i).map U.strip++l.drop i).map U.cs)[i] 0 x.strip.cs)=(((l.take (i+1)).map U.strip++l.drop (i+1)).map U.cs):=by
 rw[mA hx hi,←mix_set hx]
 congr 1
 rw[aY _ _ _ (by rw[U.cs_len,U.cs_len];omega),U.cs_len,drop_of_length_le (by rw[U.cs_len];omega)]
 simp
theorem jG {a b c d:Store}:List.Perm (c++(a++(b++d))) (a++(b++(c++d))):=by
 have h1:List.Perm (c++(a++(b++d))) ((a++b)++(c++d)):=by
  rw[←append_assoc a b d]
  exact perm_append_comm_assoc c (a++b) d
 rwa [append_assoc]at h1
theorem iU {a b c:Store}:List.Perm (b++(a++c)) (a++(b++c)):=perm_append_comm_assoc b a c
section
variable (G:Glob)
set_option maxHeartbeats 4000000 in
theorem f307:∀(u:U),u.Short->Pure G Tryz.prog 307 [.agg u.cs] (.agg u.strip.cs):=by
 refine U.ind λu ih hs=>ko.freeze ?_
 have h0:=hs.2 u u.flat_self
 have hkl:=hs.1.kids
 have hhl:=h0.2.1
 have hwl:=h0.2.2.1
 have hC:=f84 G u hs
 rw[U.cs_eq u]at hC ⊢
 refine ag.w c307 ?_
 unfold s307 r307
 (try simp only[EVz,seval,↓reduceIte,EV6,EV7])
 intro b1 hb1 b2 hb2
 have hb12:¬b1=b2:=by simp only[EVK]at hb2;exact λe=>hb2 e.symm
 have hb21:¬b2=b1:=λe=>hb12 e.symm
 (try simp only[EVz,seval,↓reduceIte,EV6,EV7,hb12,hb21])
 refine av [] _ hC.v (ax.rfl' _) (SubN.refl _) ?_
 rintro _ _ ⟨bh,ch,σh,bw,cw,σw,bk,ck,σk,rfl,rfl,hOh,hOw,hOk⟩ hnd1
 simp only[append_eq,append_assoc]at hnd1
 have hK1:b1∉σk.keys:=cn hnd1 (by simp[Store.keys])
 have hK2:b2∉σk.keys:=cn hnd1 (by simp[Store.keys])
 have hnd2:=jM hnd1
 have hW1:b1∉σw.keys:=cn hnd2 (by simp[Store.keys])
 have hW2:b2∉σw.keys:=cn hnd2 (by simp[Store.keys])
 have hnd3:=jM hnd2
 have hH1:b1∉σh.keys:=cn hnd3 (by simp[Store.keys])
 have hH2:b2∉σh.keys:=cn hnd3 (by simp[Store.keys])
 (try simp only[EVz,seval,↓reduceIte,EV6,EV7,ak hK1,ak hK2,am hK1,am hK2,ak hW1,ak hW2,am hW1,am hW2,ak hH1,ak hH2,am hH1,am hH2,hb12,hb21,append_eq,append_assoc])
 intro b15 hb15
 refine⟨[[.sc (.slice bh u.head.length ch)],[.sc (.slice bw u.words.length cw)]],rfl,by simp,rfl,?_⟩
 (try simp only[EVz,seval,↓reduceIte,EV6,EV7,ak hK1,ak hK2,am hK1,am hK2,ak hW1,ak hW2,am hW1,am hW2,ak hH1,ak hH2,am hH1,am hH2,hb12,hb21,append_eq,append_assoc])
 have hnd0:(Store.keys (σk++(σw++(σh++[(b2,AObj.cells 27 [.int .i64 0,.int .i64 0,.int .i64 0,.int .i64 0,.str [],.nil,.nil,.nil]),(b1,AObj.cells 27 [.int .i64 0,.int .i64 0,.int .i64 0,.int .i64 u.kind,.str u.label,.sc (.slice bh u.head.length ch),.sc (.slice bw u.words.length cw),.sc (.slice bk u.kids.length ck)])])))).Nodup:=by simpa[Store.keys]using hnd1
 refine jf (ι:=Nat×Store×Store) (λp=>p.1<=2/\fI 33 4 ((if 0<p.1 then u.head.map Wd.bare else u.head).map Wd.cs) bh ch p.2.1/\fI 33 4 ((if 1<p.1 then u.words.map Wd.bare else u.words).map Wd.cs) bw cw p.2.2/\(Store.keys (σk++(p.2.2++(p.2.1++[(b2,AObj.cells 27 [.int .i64 0,.int .i64 0,.int .i64 0,.int .i64 0,.str [],.nil,.nil,.nil]),(b1,AObj.cells 27 [.int .i64 0,.int .i64 0,.int .i64 0,.int .i64 u.kind,.str u.label,.sc (.slice bh u.head.length ch),.sc (.slice bw u.words.length cw),.sc (.slice bk u.kids.length ck)])])))).Nodup)
  (λp=>2-p.1) (λp=>[(1,.sc (.pointer (some ⟨b1,0,none⟩))),(2,.sc (.pointer (some ⟨b2,0,none⟩))),(15,.own (some b15) 24 1 [[.sc (.slice bh u.head.length ch)],[.sc (.slice bw u.words.length cw)]]),(16,.int .i64 2),(17,.int .i64 p.1)]) (λp=>σk++(p.2.2++(p.2.1++[(b2,AObj.cells 27 [.int .i64 0,.int .i64 0,.int .i64 0,.int .i64 0,.str [],.nil,.nil,.nil]),(b1,AObj.cells 27 [.int .i64 0,.int .i64 0,.int .i64 0,.int .i64 u.kind,.str u.label,.sc (.slice bh u.head.length ch),.sc (.slice bw u.words.length cw),.sc (.slice bk u.kids.length ck)])]))) (0,σh,σw) ⟨Nat.zero_le _,hOh,hOw,hnd0⟩ (Weak.sub ((SubN.refl _).tail _)) ?_
 rintro⟨j,th,tw⟩ ⟨hj,hth,htw,hnd⟩
 simp only at hth htw hnd ⊢
 have hjj:j=0\/j=1\/j=2:=by omega
 rcases hjj with rfl|rfl|rfl
 ·simp only[Nat.lt_irrefl,if_false,show ¬(1<0)by omega]at hth htw
  (try simp only[EVz,seval,↓reduceIte,EV6,EV7,append_eq])
  have hwk:∀(i:Nat) (x:Wd),True:=λ_ _=>trivial
  refine ay (ι:=Store) u.head (λi r c=>fI 33 4 (((u.head.take i).map Wd.bare++u.head.drop i).map Wd.cs) bh ch c/\(Store.keys (c++(σk++(tw++[(b2,AObj.cells 27 [.int .i64 0,.int .i64 0,.int .i64 0,.int .i64 0,.str [],.nil,.nil,.nil]),(b1,AObj.cells 27 [.int .i64 0,.int .i64 0,.int .i64 0,.int .i64 u.kind,.str u.label,.sc (.slice bh u.head.length ch),.sc (.slice bw u.words.length cw),.sc (.slice bk u.kids.length ck)])])))).Nodup)
   (λi c=>[(1,.sc (.pointer (some ⟨b1,0,none⟩))),(2,.sc (.pointer (some ⟨b2,0,none⟩))),(15,.own (some b15) 24 1 [[.sc (.slice bh u.head.length ch)],[.sc (.slice bw u.words.length cw)]]),(16,.int .i64 2),(17,.int .i64 0),(4,.sc (.slice bh u.head.length ch)),(22,.int .i64 u.head.length),(23,.int .i64 i)])
   (λi c=>c++(σk++(tw++[(b2,AObj.cells 27 [.int .i64 0,.int .i64 0,.int .i64 0,.int .i64 0,.str [],.nil,.nil,.nil]),(b1,AObj.cells 27 [.int .i64 0,.int .i64 0,.int .i64 0,.int .i64 u.kind,.str u.label,.sc (.slice bh u.head.length ch),.sc (.slice bw u.words.length cw),.sc (.slice bk u.kids.length ck)])]))) th ⟨by simpa using hth,(SubN.perm jG).2 hnd⟩ (Weak.sub (SubN.perm jG)) (by omega) (λi x r c hok hx hw=>?_) (λc hok hn=>?_)
  ·obtain⟨hO,hN⟩:=hok
   rcases hO with⟨h0,_,_⟩|⟨b,pad,rfl,rfl,hle,hcm,hrl,hln⟩
   ·exfalso
    have:=congrArg List.length h0
    have h9:=hx.lt
    simp at this
    omega
   ·have hrl0:=nr hx
    have hi:i<(((u.head.take i).map Wd.bare++u.head.drop i).map Wd.cs).length:=by rw[hrl0];exact hx.lt
    (try simp only[EVz,seval,↓reduceIte,EV6,EV7,hx.yes,hx.le0,hx.lt',hw,Nat.zero_add,append_eq])
    refine⟨by rw[hln];rw[hrl0]at hle;have:=hx.lt;omega,?_⟩
    rw[dS (sz:=4) (off:=1) (c:=[.int .i64 0,.int .i64 0,.int .i64 0]) (by decide) hrl hi,lV hx hi]
    (try simp only[EVz,seval,↓reduceIte,EV6,EV7,hw,append_eq])
    refine ap hx [(b,.cells 33 ((((u.head.take (i+1)).map Wd.bare++u.head.drop (i+1)).map Wd.cs).flatten++pad))] ⟨.inr ⟨b,pad,rfl,rfl,?_,hcm,iQ _,?_⟩,by simpa[Store.keys]using hN⟩ (Weak.rfl' _ _)
    ·rw[gF hx];rw[hrl0]at hle;exact hle
    ·rw[←hln,length_append,length_append,au _ (iQ _),au _ (iQ _),gF hx,hrl0]
  ·obtain⟨hO,hN⟩:=hok
   rw[take_length,drop_length,append_nil]at hO
   (try simp only[EVz,seval,↓reduceIte,EV6,EV7,hn])
   refine⟨(1,c,tw),⟨by omega,by simpa using hO,by simpa using htw,(SubN.perm jG.symm).2 hN⟩,by simp,?_⟩
   exact Weak.sub (SubN.perm jG.symm)
 ·simp only[Nat.lt_irrefl,if_false,show(0<1)by omega,if_true]at hth htw
  (try simp only[EVz,seval,↓reduceIte,EV6,EV7,append_eq])
  have hwk:∀(i:Nat) (x:Wd),True:=λ_ _=>trivial
  refine ay (ι:=Store) u.words (λi r c=>fI 33 4 (((u.words.take i).map Wd.bare++u.words.drop i).map Wd.cs) bw cw c/\(Store.keys (c++(σk++(th++[(b2,AObj.cells 27 [.int .i64 0,.int .i64 0,.int .i64 0,.int .i64 0,.str [],.nil,.nil,.nil]),(b1,AObj.cells 27 [.int .i64 0,.int .i64 0,.int .i64 0,.int .i64 u.kind,.str u.label,.sc (.slice bh u.head.length ch),.sc (.slice bw u.words.length cw),.sc (.slice bk u.kids.length ck)])])))).Nodup)
   (λi c=>[(1,.sc (.pointer (some ⟨b1,0,none⟩))),(2,.sc (.pointer (some ⟨b2,0,none⟩))),(15,.own (some b15) 24 1 [[.sc (.slice bh u.head.length ch)],[.sc (.slice bw u.words.length cw)]]),(16,.int .i64 2),(17,.int .i64 1),(4,.sc (.slice bw u.words.length cw)),(22,.int .i64 u.words.length),(23,.int .i64 i)])
   (λi c=>c++(σk++(th++[(b2,AObj.cells 27 [.int .i64 0,.int .i64 0,.int .i64 0,.int .i64 0,.str [],.nil,.nil,.nil]),(b1,AObj.cells 27 [.int .i64 0,.int .i64 0,.int .i64 0,.int .i64 u.kind,.str u.label,.sc (.slice bh u.head.length ch),.sc (.slice bw u.words.length cw),.sc (.slice bk u.kids.length ck)])]))) tw ⟨by simpa using htw,(SubN.perm iU).2 hnd⟩ (Weak.sub (SubN.perm iU)) (by omega) (λi x r c hok hx hw=>?_) (λc hok hn=>?_)
  ·obtain⟨hO,hN⟩:=hok
   rcases hO with⟨h0,_,_⟩|⟨b,pad,rfl,rfl,hle,hcm,hrl,hln⟩
   ·exfalso
    have:=congrArg List.length h0
    have h9:=hx.lt
    simp at this
    omega
   ·have hrl0:=nr hx
    have hi:i<(((u.words.take i).map Wd.bare++u.words.drop i).map Wd.cs).length:=by rw[hrl0];exact hx.lt
    (try simp only[EVz,seval,↓reduceIte,EV6,EV7,hx.yes,hx.le0,hx.lt',hw,Nat.zero_add,append_eq])
    refine⟨by rw[hln];rw[hrl0]at hle;have:=hx.lt;omega,?_⟩
    rw[dS (sz:=4) (off:=1) (c:=[.int .i64 0,.int .i64 0,.int .i64 0]) (by decide) hrl hi,lV hx hi]
    (try simp only[EVz,seval,↓reduceIte,EV6,EV7,hw,append_eq])
    refine ap hx [(b,.cells 33 ((((u.words.take (i+1)).map Wd.bare++u.words.drop (i+1)).map Wd.cs).flatten++pad))] ⟨.inr ⟨b,pad,rfl,rfl,?_,hcm,iQ _,?_⟩,by simpa[Store.keys]using hN⟩ (Weak.rfl' _ _)
    ·rw[gF hx];rw[hrl0]at hle;exact hle
    ·rw[←hln,length_append,length_append,au _ (iQ _),au _ (iQ _),gF hx,hrl0]
  ·obtain⟨hO,hN⟩:=hok
   rw[take_length,drop_length,append_nil]at hO
   (try simp only[EVz,seval,↓reduceIte,EV6,EV7,hn])
   refine⟨(2,th,c),⟨by omega,by simpa using hth,by simpa using hO,(SubN.perm iU.symm).2 hN⟩,by simp,?_⟩
   exact Weak.sub (SubN.perm iU.symm)
 ·simp only[show(0<2)by omega,show(1<2)by omega,if_true]at hth htw
  have hT0:=jM hnd
  have hT1:b1∉tw.keys:=cn hT0 (by simp[Store.keys])
  have hT2:b2∉tw.keys:=cn hT0 (by simp[Store.keys])
  have hT3:=jM hT0
  have hT4:b1∉th.keys:=cn hT3 (by simp[Store.keys])
  have hT5:b2∉th.keys:=cn hT3 (by simp[Store.keys])
  (try simp only[EVz,seval,↓reduceIte,EV6,EV7,ak hT1,ak hT2,am hT1,am hT2,ak hT4,ak hT5,am hT4,am hT5,hb12,hb21,append_eq,append_assoc,ak hK1,ak hK2,am hK1,am hK2])
  refine ay (ι:=Store) u.kids (λi r c=>fI 27 8 (((u.kids.take i).map U.strip++u.kids.drop i).map U.cs) bk ck c/\(Store.keys (c++(tw++(th++[(b2,AObj.cells 27 [.int .i64 0,.int .i64 0,.int .i64 0,.int .i64 0,.str [],.nil,.nil,.nil]),(b1,AObj.cells 27 [.int .i64 0,.int .i64 0,.int .i64 0,.int .i64 u.kind,.str u.label,.sc (.slice bh u.head.length ch),.sc (.slice bw u.words.length cw),.sc (.slice bk u.kids.length ck)])])))).Nodup)
   (λi c=>[(1,.sc (.pointer (some ⟨b1,0,none⟩))),(2,.sc (.pointer (some ⟨b2,0,none⟩))),(35,.int .i64 u.kids.length),(36,.int .i64 i)]) (λi c=>c++(tw++(th++[(b2,AObj.cells 27 [.int .i64 0,.int .i64 0,.int .i64 0,.int .i64 0,.str [],.nil,.nil,.nil]),(b1,AObj.cells 27 [.int .i64 0,.int .i64 0,.int .i64 0,.int .i64 u.kind,.str u.label,.sc (.slice bh u.head.length ch),.sc (.slice bw u.words.length cw),.sc (.slice bk u.kids.length ck)])]))) σk ⟨by simpa using hOk,hnd⟩ (Weak.rfl' _ _) (by omega) (λi x r c hok hx hw=>?_) (λc hok hn=>?_)
  ·obtain⟨hO,hN⟩:=hok
   rcases hO with⟨h0,_,_⟩|⟨b,pad,rfl,rfl,hle,hcm,hrl,hln⟩
   ·exfalso
    have:=congrArg List.length h0
    have h9:=hx.lt
    simp at this
    omega
   ·have hm0:=mix_len (g:=U.strip) (f:=U.cs) hx
    have hi:i<(((u.kids.take i).map U.strip++u.kids.drop i).map U.cs).length:=by rw[hm0];exact hx.lt
    have hbb:¬b=b1:=by
     intro e
     subst e
     exact cn hN (b:=b) (by simp[Store.keys]) (by simp[Store.keys])
    have htk:=jk (pad:=pad) hrl hi
    rw[mA hx hi]at htk
    have hroom:8<=((List.map U.cs (List.map U.strip (List.take i u.kids)++List.drop i u.kids)).flatten++pad).length-i*8:=by rw[hln];rw[hm0]at hle;have:=hx.lt;omega
    have hsp:=dS (sz:=8) (off:=0) (c:=x.strip.cs) (by rw[U.cs_len];omega) (pad:=pad) hrl hi
    rw[oL hx hi,Nat.add_zero]at hsp
    have hst:=ih x hx.mem (hs.kid hx.mem)
    (repeat' (first|(with_reducible refine AI (by omega) ?_)|(with_reducible refine aa hst ?_)|simp only[EVz,seval,↓reduceIte,EV6,EV7,hx.yes,hx.le0,hx.lt',hw,hbb,hb12,hb21,ak hT1,ak hT2,ak hT4,ak hT5,Nat.zero_add,append_eq,htk,hsp,length_drop,U.cs_len]|(with_reducible refine ae ?_ ?_)|(with_reducible refine af ?_)|fail))
    all_goals
     (try rw[hsp])
     refine ap hx [(b,.cells 27 ((((u.kids.take (i+1)).map U.strip++u.kids.drop (i+1)).map U.cs).flatten++pad))] ⟨.inr ⟨b,pad,rfl,rfl,?_,hcm,dZ _,?_⟩,by simpa[Store.keys]using hN⟩ (Weak.rfl' _ _)
     ·rw[kC hx];rw[hm0]at hle;exact hle
     ·rw[←hln,length_append,length_append,au _ (dZ _),au _ (dZ _),kC hx,hm0]
  ·obtain⟨hO,hN⟩:=hok
   rw[take_length,drop_length,append_nil]at hO
   have hC1:b1∉c.keys:=cn hN (by simp[Store.keys])
   have hC2:b2∉c.keys:=cn hN (by simp[Store.keys])
   (try simp only[EVz,seval,↓reduceIte,EV6,EV7,hn,ak hT1,ak hT2,am hT1,am hT2,ak hT4,ak hT5,am hT4,am hT5,hb12,hb21,append_eq,append_assoc,ak hC1,ak hC2,am hC1,am hC2])
   refine RET.mk' (σ':=c++(tw++th)) (SubN.app (SubN.app SubN.appL)) ⟨bh,ch,th,bw,cw,tw,bk,ck,c,?_,rfl,?_,?_,?_⟩
   ·rw[U.strip_eq];simp
   ·rw[U.strip_eq];exact hth
   ·rw[U.strip_eq];exact htw
   ·rw[U.strip_eq];exact hO
end
end Go.Av
