/- Part. -/
import Derived.Test.YteemngnialjaiaaGreatDoorQ11
set_option maxRecDepth 100000
set_option maxHeartbeats 16000000
set_option linter.unusedVariables false
set_option linter.unusedSimpArgs false
namespace Go.Proofs.YteemngnialjaiaaGreatDoor
open Go.Proofs.Tryz Go.RowKit
variable {P:Program}{gl:Nat->Option (List Tr)}{n0 g k base N c:Nat}{M M':Mem}{w w':World}{S:List Rf}{a:Act}{o:Oper}{cs:List V}{vs xs news:List Value}{F:Nat->Nat}{es zs:List Tr}{i I:TypeInfo}{e t:TypeId}{v u z v':Value}{x r dst:V}{y:Tr}{ps:List (Nat×Value)}{parts:List (Nat×V)}{row:Option Nat}{A:Option Addr}
section
section
variable {σ σ':Sg}
theorem yp(h:Rvs M w cs vs)(Z:cs.all V.cell=true):∀u∈vs,u.oneCell'=true:=fun u hu=>by
 obtain⟨i,J,rfl⟩:=QO hu;have I:i<cs.length:=by rw[<-h.1];exact J
 exact (h.2 i _ _ (OH I) (OH J)).oneCell (List.all_eq_true.1 Z _ (OX I))
theorem xz(Z:n0<=g)(h:∀k,k≠g->w'.heap[k]?=w.heap[k]?)(hs:w'.heap.size=w.heap.size)(I:w'.os=w.os)(J:w'.tape=w.tape)(hp:w'.output=w.output):Below n0 w w' :=
 ⟨I,J,hp,Qr hs.symm,fun k hk=>h k om⟩
theorem pn(Z:F g=0)(h:∀k,k≠g->w'.heap[k]?=w.heap[k]?):Kept F w F w':=fun b n u J he=>by
 have I:b≠g:=fun e=>by rw[e,Z]at J;omega
 exact⟨by rw[Pf (a:=⟨b,n,none⟩) (h b I)];exact he,J⟩
theorem Fl{i:Nat}{e e':Tr}(hk:∀e∈es,e.cells.length=k)(he:es[i]?=some e)(J:e'.cells.length=k):aO (es.set i e')=(aO es).take (i*k)++e'.cells++(aO es).drop (i*k+k):=by
 induction es generalizing i with
 | nil=>simp at he
 | cons x l I =>
  have h:x.cells.length=k:=hk x jS
  cases i with
  | zero=>simp[aO,<-h]
  | succ i =>
   have:=I (fun e he=>hk e (by simp[he])) (jQ he);simp only[aO,O4,O8]at this ⊢;rw[this,show (i+1)*k=x.cells.length+i*k by rw[Q8,h];omega,List.take_length_add_append,show x.cells.length+i*k+k=x.cells.length+(i*k+k) by omega,List.drop_length_add_append];simp
theorem zh{n:Nat}(h:w.ownsRow base e k v n xs){off:Nat}{ys:List Value}(hv:dj v=some g)(hl:off+ys.length<=xs.length)(hw:∀cur Z,w.heap[g]?=some (.cells cur Z (0,0))->w'.heap[g]?=some (.cells (cur.toList.take off++ys++cur.toList.drop (off+ys.length)).toArray Z (0,0))) :
  w'.ownsRow base e k v n (xs.take off++ys++xs.drop (off+ys.length)):=by
 have hlen:(xs.take off++ys++xs.drop (off+ys.length)).length=xs.length:=by simp;omega
 refine⟨by rw[hlen];exact h.1,?_⟩;rcases h.2 with ⟨rfl,-⟩|⟨g',cap,cur,rfl,hb,hh,hn,hm,hcs,ht⟩
 ·cases hv
 ·obtain rfl:g'=g:=by cases hv;rfl
  refine .inr ⟨g',cap,_,rfl,hb,hw cur e hh,hn,hm,?_,?_⟩
  ·have J:xs.length<=cur.size:=by rw[<-ht];simp;exact Nat.min_le_right _ _
   simp;omega
  ·have J:xs.length=n*k:=h.1;have a':n*k<=cur.size:=by rw[hcs];exact Q1 k hn
   subst ht;have I:(cur.toList.take off++ys).length=off+ys.length:=by simp;omega
   rw[List.toList_toArray,List.take_append,QK (by rw[I];omega),I,List.take_take,show min off (n*k)=off by omega,List.drop_take]
theorem yM{y:V}(h:SR gl n0 M w σ S)(hx:Cs P σ t x y=some (r,σ'))(hu:Rv M w x u)(hv:Rv M w y v) :
  ∃w',(Instr.storeAt t u v).run P w=.ok () w'/\Below n0 w w'/\Ff n0 (nx σ.obs) (nx σ'.obs) M w M w'/\SR gl n0 M w' σ' S/\r=.p (.at undef):=by
 unfold Cs at hx
 split at hx
 ·rename_i i n j o' ys hi B'
  have h':=hv.cells B';have f':v.cells.size=ys.length:=jQ h'.1
  cases hu with
  | off _ _ _ =>
   split at hx
   ·rename_i cs hn
    split at hx
    ·rename_i hc
     cases hx
     obtain⟨rfl,h1,h2,h3⟩:=hc;obtain⟨A,c,el,g1,g2,g3,g4,g5,g6⟩:=h.ob n _ hn;obtain⟨w',r1,r2,r3,r4,r5,r6,r7⟩:=lG (P:=P) hi A o' g4 (v:=v) (by rw[f',h1]) (by rw[f'];omega) (yp h' h3);refine⟨w',?_,xz g2 r3 r4 r5 r6 r7,.put (pn (F:=M.F) g3 r3),?_,rfl⟩
     ·rw[g1];simpa [gj] using r1
     ·have kp:=pn (F:=M.F) g3 r3;have hh:=h.upd (M':=M) (κ:=id) (n:=n) (ob:=.box (tM cs o' ys)) (fun t v hv=>hv.kept kp rfl rfl) kp (Qr r4.symm) (fun m _=>⟨rfl,rfl⟩)
       (fun m x g hm hx hg=>⟨r3 g (fun e=>h.apart n m _ x A (Pc hm) hn hx (by rw[g1];rfl) (e▸hg)),rfl⟩)
       ⟨A,_,el,g1,g2,g3,r2,by simp[tM];omega,?_⟩ (fun m x g hm hx hg l'=>h.apart n m _ x g (Pc hm) hn hx hg l') (fun i hi=>⟨r3 _ (h.lp_cells hi g4).1,r3 _ (h.lp_cells hi g4).2⟩)
      ·rwa [xY]at hh
      ·have hb:Rvs M w cs (c.toList.take cs.length):=⟨by simp;omega,fun i t v J hv=>g6 i t v J (by
        rw[Qt,OG (List.getElem?_eq_some_iff.1 J).1]at hv;simpa using hv)⟩
       have hr:=((hb.take o').append h').append (hb.drop (o'+ys.length));intro i t u J hu;have e:v.cells.toList.length=ys.length:=jQ f';have hi:i<cs.length:=by
        have:=(List.getElem?_eq_some_iff.1 J).1;simp only[tM,OM,PB,Qu]at this;omega
       refine (hr.2 i t u J ?_).kept kp rfl rfl;rw[e]at hu;have r':((c.toList.take o'++v.cells.toList++c.toList.drop (o'+ys.length)).take cs.length)[i]?=some u:=by rw[Qt,OG hi];simpa using hu
       have n':(c.toList.take o'++v.cells.toList).length=o'+ys.length:=by rw[OM,PB,e,QN];omega
       rw[List.take_append,QK (by rw[n'];exact h2),n']at r';rw[List.take_take,show min o' cs.length=o' by omega,List.drop_take];exact r'
    ·cases hx
   ·rename_i e k es hn
    split at hx
    ·rename_i ts I C' dX
     split at hx
     ·rename_i hc
      cases hx
      obtain⟨h1,h2,h3⟩:=hc;have m':=V.unp_eq C';have D':ts.length=ys.length:=by rw[m'];simp
      obtain⟨hk,h0,xs,b1,b2,b3,b4,b5⟩:=h.ob n _ hn;have A':j<es.length:=(List.getElem?_eq_some_iff.1 dX).1;have I':I.cells.length=k:=b2 I (Pb dX);have k':xs.length=es.length*k:=b1.1;have N':j*k+k<=es.length*k:=by rw[<-Q8];exact Q1 k A'
      have q':0<xs.length:=by rw[k'];exact Nat.mul_pos om h0
      obtain⟨A,cap,Z,-⟩:=dw b1 (OH q');have E':=(h.ob n _ hn).lt (g:=A) (by rw[Z];rfl);have j':M.F A=0:=by have:=b5 A (by rw[Z];rfl);rwa [OF jS]at this
      have hblk:∃cur,w.heap[A]?=some (.cells cur e (0,0))/\cur.size=cap*k/\es.length<=cap:=by
       rcases b1.2 with ⟨i',-⟩|⟨g',cap',cur,i',hb,hh,hn',hm,hcs,J⟩
       ·rw[Z]at i';cases i'
       ·rw[Z]at i';cases i';exact⟨cur,hh,hcs,hn'⟩
      obtain⟨cur,q1,q2,q3⟩:=hblk;have J':es.length*k<=cur.size:=by rw[q2];exact Q1 k q3
      obtain⟨w',r1,r2,r3,r4,r5,r6,r7⟩:=lG (P:=P) hi A (j*k+o') q1 (v:=v) (by rw[f',h1]) (by rw[f'];omega) (yp h' (by
       rw[m',List.all_map];exact h3))
      have t':v.cells.toList.length=ts.length:=by rw[D'];simpa using f'
      have y':∀(new:List Tr),(∀t∈new,t.cell=true)->(ID I new).cells=new:=by
       intro new F';unfold ID
       split
       ·rename_i t _
        have:=F' t jS
        cases t with
        | «at» v=>cases v<;>first|rfl|cases this
        | _=>first|rfl|cases this
       ·rfl
      have u':∀t∈I.cells,t.cell=true:=fun t J=>b3 t (List.mem_flatMap.2 ⟨I,Pb dX,J⟩)
      have z':(I.cells.take o'++ts++I.cells.drop (o'+ts.length)).length=k:=by simp;omega
      have s':∀t∈I.cells.take o'++ts++I.cells.drop (o'+ts.length),t.cell=true:=by
       intro t J;rcases List.mem_append.1 J with J|J
       ·rcases List.mem_append.1 J with J|J
        ·exact u' t (Ra J)
        ·exact List.all_eq_true.1 h3 t J
       ·exact u' t (Q9 J)
      have a':=y' _ s';refine⟨w',?_,xz E'.2 r3 r4 r5 r6 r7,.put (pn (F:=M.F) j' r3),?_,rfl⟩
      ·rw[Z,hk];simpa [gj] using r1
      ·have kp:=pn (F:=M.F) j' r3;have x':=zh (w':=w') b1 (g:=A) (off:=j*k+o') (ys:=v.cells.toList) (by rw[Z];rfl) (by rw[t',k'];omega) (fun G' P' p'=>by rw[q1]at p';cases p';exact r2);have d':=Fl (e':=ID I (I.cells.take o'++ts++I.cells.drop (o'+ts.length))) b2 dX (by rw[a'];exact z');rw[a']at d';have hh:=h.upd (M':=M) (κ:=id) (n:=n) (ob:=.row e k (es.set j (ID I (I.cells.take o'++ts++I.cells.drop (o'+ts.length)))) false) (fun t v hv=>hv.kept kp rfl rfl) kp (Qr r4.symm) (fun m _=>⟨rfl,rfl⟩)
        (fun m x g hm hx hg=>⟨r3 g (fun e=>h.apart n m _ x A (Pc hm) hn hx (by rw[Z];rfl) (e▸hg)),rfl⟩)
        ⟨hk,h0,_,by rw[RY];exact x',?_,?_,?_,fun g hg=>by rw[Z]at hg;cases hg;rw[OF jS];exact j'⟩ (fun m x g hm hx hg l'=>h.apart n m _ x g (Pc hm) hn hx hg l') (fun i hi=>⟨r3 _ (h.lp_cells hi q1).1,r3 _ (h.lp_cells hi q1).2⟩)
       ·rwa [xY]at hh
       ·intro t J;rcases List.mem_or_eq_of_mem_set J with J|J
        ·exact b2 t J
        ·rw[J,a'];exact z'
       ·intro t J;rw[d']at J;rcases List.mem_append.1 J with J|J
        ·rcases List.mem_append.1 J with J|J
         ·exact b3 t (Ra J)
         ·exact s' t J
        ·exact b3 t (Q9 J)
       ·intro q t u J hu;rw[d']at J;refine Rp.kept kp ?_;have Q':(aO es).length=xs.length:=by rw[gq b2,k']
        have c':∀q t,I.cells[q]?=some t->(aO es)[j*k+q]?=some t:=fun q t hq=>gX b2 dX hq
        have H':j*k+k<=(aO es).length:=by omega
        simp only[Rk,OM,PB,Qu,Qt,Qa,t']at J hu
        by_cases c1:q<j*k
        ·simp only[show q<min (j*k) (aO es).length+(min o' I.cells.length+ts.length+(I.cells.length-(o'+ts.length))) by omega,show q<min (j*k) (aO es).length by omega,c1,show q<min (j*k+o') xs.length+ts.length by omega,show q<min (j*k+o') xs.length by omega,show q<j*k+o' by omega,Ps]at J hu;exact b4 q t u J hu
        ·by_cases c2:q<j*k+o'
         ·simp only[show q<min (j*k) (aO es).length+(min o' I.cells.length+ts.length+(I.cells.length-(o'+ts.length))) by omega,show ¬q<min (j*k) (aO es).length by omega,show q-min (j*k) (aO es).length<min o' I.cells.length+ts.length by omega,show q-min (j*k) (aO es).length<min o' I.cells.length by omega,show q-min (j*k) (aO es).length<o' by omega,show q<min (j*k+o') xs.length+ts.length by omega,show q<min (j*k+o') xs.length by omega,c2,Ps,Qb]at J hu;have:=c' _ t J;rw[show j*k+(q-min (j*k) (aO es).length)=q by omega]at this;exact b4 q t u this hu
         ·by_cases c3:q<j*k+o'+ts.length
          ·simp only[show q<min (j*k) (aO es).length+(min o' I.cells.length+ts.length+(I.cells.length-(o'+ts.length))) by omega,show ¬q<min (j*k) (aO es).length by omega,show q-min (j*k) (aO es).length<min o' I.cells.length+ts.length by omega,show ¬q-min (j*k) (aO es).length<min o' I.cells.length by omega,show q<min (j*k+o') xs.length+ts.length by omega,show ¬q<min (j*k+o') xs.length by omega,Ps,Qb]at J hu;rw[show q-min (j*k) (aO es).length-min o' I.cells.length=q-(j*k+o') by omega]at J;rw[show q-min (j*k+o') xs.length=q-(j*k+o') by omega]at hu;have:=h'.2 (q-(j*k+o')) (.p t) u (by rw[m'];simp[J]) hu;exact this.inv_p
          ·by_cases c4:q<j*k+k
           ·simp only[show q<min (j*k) (aO es).length+(min o' I.cells.length+ts.length+(I.cells.length-(o'+ts.length))) by omega,show ¬q<min (j*k) (aO es).length by omega,show ¬q-min (j*k) (aO es).length<min o' I.cells.length+ts.length by omega,show ¬q<min (j*k+o') xs.length+ts.length by omega,Ps,Qb]at J hu;rw[show j*k+o'+ts.length+(q-(min (j*k+o') xs.length+ts.length))=q by omega]at hu;have:=c' _ t J;rw[show j*k+(o'+ts.length+(q-min (j*k) (aO es).length-(min o' I.cells.length+ts.length)))=q by omega]at this;exact b4 q t u this hu
           ·simp only[show ¬q<min (j*k) (aO es).length+(min o' I.cells.length+ts.length+(I.cells.length-(o'+ts.length))) by omega,show ¬q<min (j*k+o') xs.length+ts.length by omega,Qb]at J hu;rw[show j*k+o'+ts.length+(q-(min (j*k+o') xs.length+ts.length))=q by omega]at hu;rw[show j*k+k+(q-(min (j*k) (aO es).length+(min o' I.cells.length+ts.length+(I.cells.length-(o'+ts.length)))))=q by omega]at J;exact b4 q t u J hu
     ·cases hx
    ·cases hx
   ·cases hx
 ·cases hx
end
end
section
def rX:Tr->Option (List Tr)
 | .lst _ es=>some es
 | .at (.slice none 0 0)=>some []
 | _=>none
def bsl(P:Program)(σ:Sg)(t:TypeId)(len:Nat)(parts:List (Nat × V)):Option (V × Sg) :=
 match P.underlying t with
 | some (.slice e)=>match P.info? e,V.frzs false σ (parts.map (·.2)) with
  | some ie,some ts=>if parts.length=len/\uU 0 parts=true/\0<ie.size/\ie.zero.isSome=true/\len*ie.size<=2^24/\(ts.all fun t=>t.cells.length==ie.size&&t.cells.all Tr.cell)=true then
    some (.p (.lst true ts),σ.fzs (V.nmss (parts.map (·.2)))) else none
  | _,_=>none
 | _=>none
def vC:List V->Option (List V)
 | []=>some []
 | v::l=>match V.cells v,vC l with|some c,some m=>some (c++m)|_,_=>none
def Nj(P:Program)(σ:Sg)(t:TypeId)(len:Nat)(parts:List (Nat × V)):Option (V × Sg) :=
 match P.underlying t with
 | some (.slice e)=>match P.info? e,vC (parts.map (·.2)) with
  | some ie,some cs=>if parts.length=len/\uU 0 parts=true/\0<ie.size/\ie.zero.isSome=true/\0<len/\len*ie.size<=2^24/\(parts.all fun x=>(x.2.cells.map (·.length))==some ie.size)=true then
    some (.arr (nm σ) ie.size len true,(gJ σ cs).2) else none
  | _,_=>none
 | _=>none
def NZ(P:Program)(σ:Sg)(t:TypeId)(dst src:V):Option (V × Sg) :=
 match P.underlying t,dst,src with
 | some (.slice e),.arr n k len true,.arr n' k' len' _=>match P.info? e,gt σ.obs n,gt σ.obs n' with
  | some i,some (.box cs),some (.box cs')=>if i.zero.isSome=true/\k=i.size/\k'=i.size/\0<len'/\len*k<=cs.length/\len'*k'<=cs'.length/\len+len'<=maxLen/\(len+len')*i.bytes<=140737488355328 then
    some (.arr (nm σ) k (len+len') false,(gJ σ (cs.take (len*k)++cs'.take (len'*k'))).2) else none
  | _,_,_=>none
 | _,_,_=>none
def Sg.rm(σ:Sg)(n:Nat):Sg:=⟨Go.Proofs.YteemngnialjaiaaGreatDoor.rm σ.obs n,σ.stk,σ.lps⟩
def app(P:Program)(σ:Sg)(t:TypeId)(dst src:V):Option (V × Sg) :=
 match P.underlying t with
 | some (.slice e)=>match P.info? e,(src.frz false σ).bind rX with
  | some i,some ys=>match i.zero with
   | some z=>if z.cells.size=i.size/\0<i.size/\(ys.all fun t=>t.cells.length==i.size)=true then
     let σ1:=σ.fzs src.nms
     let go (τ:Sg) (es:List Tr):Option (V × Sg):=if es.length+ys.length<=maxLen/\(es.length+ys.length)*i.bytes<=140737488355328 then some (.ref (nm σ1),τ.new (nm σ1) (.row e i.size (es++ys) false)) else none
     match dst with
     | .p (.at (.slice none 0 0))=>go σ1 []
     | .p (.lst full es)=>if ys.isEmpty then some (dst,σ1) else if full=true/\(es.all fun t=>t.cells.length==i.size)=true then go σ1 es else none
     | .ref n=>match gt σ1.obs n with
      | some (.row e' k es false)=>if e'=e/\k=i.size then go (σ1.rm n) es else none
      | _=>none
     | _=>none
    else none
   | none=>none
  | _,_=>none
 | _=>none
section
variable {σ σ':Sg}
theorem Gm(hF:∀b,M.F b<=F b)(h:Rv M w x u):Rv { M with F:=F } w x u :=
 h.kept (M':={ M with F:=F }) (fun b n u I e=>⟨e,OT I (hF b)⟩) rfl rfl
mutual
theorem lI:∀(x:V){t:Tr},x.frz false σ=some t->∀n∈x.nms,∃e k es J,gt σ.obs n=some (.row e k es J)
 | .p t,_,_=>fun n I=>by simp[V.nms]at I
 | .agg cs,_,h=>fun n I=>by
  rw[V.frz]at h;rw[V.nms]at I
  cases hf:V.frzs false σ cs with
  | none=>rw[hf]at h;cases h
  | some ts=>exact eC cs hf n I
 | .tup cs,_,h=>fun n I=>by
  rw[V.frz]at h;rw[V.nms]at I
  cases hf:V.frzs false σ cs with
  | none=>rw[hf]at h;cases h
  | some ts=>exact eC cs hf n I
 | .ref m,_,h=>fun n I=>by
  rw[V.frz]at h;rw[V.nms]at I;obtain rfl:n=m:=jQ I
  split at h
  ·rename_i e k es J he;exact⟨e,k,es,J,he⟩
  ·cases h
 | .off m i o,_,_=>fun n I=>by simp[V.nms]at I
 | .arr m k len full,_,_=>fun n I=>by simp[V.nms]at I
 | .fn f x y,_,h=>fun n I=>by
  rw[V.frz]at h;rw[V.nms]at I
  split at h
  ·rename_i x' y' h1 Z
   rcases List.mem_append.1 I with I|I
   ·exact eC x h1 n I
   ·exact eC y Z n I
  ·cases h
 | .yld i,_,_=>fun n I=>by simp[V.nms]at I
 | .vw m lo len,_,_=>fun n I=>by simp[V.nms]at I
 | .junk,_,_=>fun n I=>by simp[V.nms]at I
theorem eC:∀(cs:List V){ts:List Tr},V.frzs false σ cs=some ts->∀n∈V.nmss cs,∃e k es J,gt σ.obs n=some (.row e k es J)
 | [],_,_=>fun n I=>by rw[V.nmss]at I;cases I
 | x::l,_,h=>fun n I=>by
  rw[V.frzs]at h;rw[V.nmss]at I
  split at h
  ·rename_i v m h1 Z
   rcases List.mem_append.1 I with I|I
   ·exact lI x h1 n I
   ·exact eC l Z n I
  ·cases h
end
theorem SR.frz(h:SR gl n0 M w σ S)(hu:Rv M w x u){t:Tr}(Z:x.frz false σ=some t):∃F,(∀b,M.F b<=F b)/\Ff n0 (nx σ.obs) (nx (σ.fzs x.nms).obs) M w { M with F:=F } w/\SR gl n0 { M with F:=F } w (σ.fzs x.nms) S/\Rp F w t u:=by
 obtain⟨F,h1,h2,h3,h4⟩:=h.fzs x.nms;refine⟨F,h1,(Ff.more h1 h2).mono (Qr (F0 _ _).symm),h3,vK h h1 hu Z fun n ob g hn hg J=>?_⟩;have I:n∈x.nms:=hn.resolve_right jS;obtain⟨e,k,es,fz,he⟩:=lI x Z n I;rw[he]at hg;cases hg;exact h4 n e k es fz g I he J
theorem Di{α:Type}:∀(l:List (Nat × α))(n:Nat),uU n l=true->l=((l.map (·.2)).zipIdx n).map fun x=>(x.2,x.1)
 | [],_,_=>rfl
 | (i,x)::l,n,h=>by
  simp only[uU,ON,Pa]at h;obtain⟨rfl,h⟩:=h;simp only[OU,List.zipIdx_cons];rw[<-Di l _ h]
theorem aQ:maxLen=9223372036854775807:=rfl
theorem lu{F:Nat->Nat}:∀{ts:List Tr}{vs:List Value},vs.length=ts.length->(∀(i:Nat)(t:Tr)(v:Value),ts[i]?=some t->vs[i]?=some v->Rp F w t v) ->
  (vs.flatMap fun v=>v.cells.toList).length=(aO ts).length/\∀(j:Nat)(t:Tr)(u:Value),(aO ts)[j]?=some t->(vs.flatMap fun v=>v.cells.toList)[j]?=some u->Rp F w t u
 | [],vs,hl,_=>by
  have:vs=[]:=Po (jQ hl);subst this;exact⟨rfl,fun j t u h=>by simp at h⟩
 | t::ts,[],hl,_=>by simp at hl
 | t::ts,v::vs,hl,h=>by
  obtain⟨h1,I⟩:=(h 0 t v rfl rfl).cells;obtain⟨h3,Z⟩:=lu (ts:=ts) (vs:=vs) (jQ hl) (fun i t v J hv=>h (i+1) t v (jQ J) (jQ hv));refine⟨by simp only[aO,O8,OM]at *;omega,fun j s u hs hu=>?_⟩;simp only[aO,O8]at hs hu
  by_cases hj:j<t.cells.length
  ·rw[Ph hj]at hs;rw[Ph om]at hu;exact I j s u hs hu
  ·rw[Pz om]at hs;rw[Pz om,h1]at hu;exact Z _ s u hs hu
theorem uq{α β:Type}:∀(l:List (Nat × α))(m:List (Nat × β))(n:Nat),l.map (·.1)=m.map (·.1)->uU n m=true->uU n l=true
 | [],_,_,_,_=>rfl
 | x::l,[],n,hm,_=>by simp at hm
 | x::l,y::m,n,hm,hi=>by
  simp only[OU,PJ]at hm;simp only[uU,ON,Pa]at hi ⊢;exact⟨hm.1.trans hi.1,uq l m _ hm.2 hi.2⟩
theorem CD{len:Nat}(hu:P.underlying t=some (.slice e))(hi:P.info? e=some I)(hz:I.zero=some z)(h0:0<I.size)(a':len*I.size<=2^24)(J:ps.length=len)(Z:uU 0 ps=true)(hv:∀v∈ps.map (·.2),v.cells.size=I.size) :
  (Instr.buildSlice t len ps.toArray).run P w=.ok (.slice (some ⟨w.heap.size,0,none⟩) len len) (w.alloc (.cells ((ps.map (·.2)).flatMap fun v=>v.cells.toList).toArray e)):=by
 by_cases hlen:len*I.size=0
 ·have:len=0:=by rcases Nat.mul_eq_zero.1 hlen with h|h<;>omega
  subst this;have:ps=[]:=Po J;subst this;simp[Instr.buildSlice,Pu hu,cZ hi,Instr.fill,newRow];rw[show Array.range 0=#[] by simp[Array.range],Array.map_empty]
 ·refine run_buildSlice (P:=P) w t e len ps.toArray _ I z hu hi hz om hlen ?_;have:=Great.fill_whole h0 (ps.map (·.2)) ((Array.range (len*I.size)).map (z.cells[·%z.cells.size]!)) hv (by simp[J]);rw[<-this];congr 1;exact Di ps 0 Z
theorem tp:∀{l:List V}{vs:List Value}{cs:List V},Rvs M w l vs->vC l=some cs->Rvs M w cs (vs.flatMap fun v=>v.cells.toList)
 | [],vs,cs,h,hc=>by
  have:vs=[]:=Po (jQ h.1);subst this;cases hc;exact⟨rfl,fun i t v h=>by simp at h⟩
 | x::l,[],cs,h,_=>by have:=h.1;simp at this
 | x::l,v::vs,cs,h,hc=>by
  rw[vC]at hc
  split at hc
  ·rename_i c m h1 I
   cases hc
   exact ((h.2 0 x v rfl rfl).cells h1).append (tp ⟨jQ h.1,fun i t u J hu=>h.2 (i+1) t u (jQ J) (jQ hu)⟩ I)
  ·cases hc
theorem JS{len:Nat}(h:SR gl n0 M w σ S)(I:Nj P σ t len parts=some (x,σ'))(he:ps.map (·.1)=parts.map (·.1))(hp:Rvs M w (parts.map (·.2)) (ps.map (·.2))) :
  ∃M' w' u,(Instr.buildSlice t len ps.toArray).run P w=.ok u w'/\Below n0 w w'/\Ff n0 (nx σ.obs) (nx σ'.obs) M w M' w'/\SR gl n0 M' w' σ' S/\Rv M' w' x u:=by
 unfold Nj at I
 split at I
 ·rename_i e hu
  split at I
  ·rename_i ie cs hi i'
   split at I
   ·rename_i hc
    cases I
    obtain⟨hl,g',h0,hz,j',h',f'⟩:=hc;obtain⟨z,hz⟩:=Option.isSome_iff_exists.1 hz;have Z:ps.length=len:=by have h9:=congrArg List.length he;rw[OL,OL]at h9;rw[h9,hl]
    have d':=CD (P:=P) (w:=w) hu hi hz h0 h' Z (uq ps parts 0 he g') (fun v hv=>by
     obtain⟨i,a',rfl⟩:=QO hv;have c':i<parts.length:=by rw[hl,<-Z];simpa using a'
     have h1:=List.all_eq_true.1 f' _ (OX c');simp only[Pa]at h1
     cases J:(parts[i].2).cells with
     | none=>rw[J]at h1;cases h1
     | some c =>
      rw[J]at h1;have h2:c.length=ie.size:=jQ h1;have h3:=(hp.2 i parts[i].2 _ (by simp[c']) (OH a')).cells J;rw[<-h2,<-h3.1];simp)
    obtain⟨M',m1,m2,m3,m4,hh⟩:=nK (cs:=cs) (vs:=((ps.map (·.2)).flatMap fun v=>v.cells.toList).toArray) h (by simpa using tp hp i') e;refine⟨M',_,_,d',m1,m2,m3,?_⟩;have hblk:gj (M'.h (nm σ))=w.heap.size:=by rw[hh];rfl
    have:=Rv.arr (M:=M') (w:=w.alloc (.cells ((ps.map (·.2)).flatMap fun v=>v.cells.toList).toArray e)) (nm σ) ie.size len true len (OI _) (fun _=>rfl) (by rw[aQ];have:=Nat.le_mul_of_pos_right len (show 0<ie.size by omega);omega)
    rwa [hblk]at this
   ·cases I
  ·cases I
 ·cases I
theorem IJ{len:Nat}(h:SR gl n0 M w σ S)(hx:bsl P σ t len parts=some (x,σ'))(he:ps.map (·.1)=parts.map (·.1))(hp:Rvs M w (parts.map (·.2)) (ps.map (·.2))) :
  ∃M' w' u,(Instr.buildSlice t len ps.toArray).run P w=.ok u w'/\Below n0 w w'/\Ff n0 (nx σ.obs) (nx σ'.obs) M w M' w'/\SR gl n0 M' w' σ' S/\Rv M' w' x u:=by
 unfold bsl at hx
 split at hx
 ·rename_i e hu
  split at hx
  ·rename_i ie ts hi t'
   split at hx
   ·rename_i hc
    cases hx
    obtain⟨hl,p',h0,hz,s',a'⟩:=hc;obtain⟨z,hz⟩:=Option.isSome_iff_exists.1 hz;have n':Rv M w (.agg (parts.map (·.2))) (.agg (ps.map (·.2)).toArray):=.agg _ _ (jQ hp.1) (fun i t v J hv=>hp.2 i t v J (jQ hv));obtain⟨F,f1,f2,f3,f4⟩:=h.frz n' (t:=.agg ts) (by rw[V.frz,t'];rfl);rw[V.nms]at f2 f3
    cases f4 with
    | agg _ _ l' hr =>
     have d':ps.length=len:=by have h9:=congrArg List.length he;rw[OL,OL]at h9;rw[h9,hl]
     have c':∀t∈ts,t.cells.length=ie.size:=fun t J=>by have:=List.all_eq_true.1 a' t J;simp only[ON,Pa]at this;exact this.1
     have q':∀t∈aO ts,t.cell=true:=fun t J=>by
      obtain⟨s,hs,h'⟩:=List.mem_flatMap.1 J;have:=List.all_eq_true.1 a' s hs;simp only[ON]at this;exact List.all_eq_true.1 this.2 t h'
     obtain⟨c1,c2⟩:=lu (ts:=ts) (vs:=ps.map (·.2)) (jQ l') (fun i t v J hv=>hr i t v J (jQ hv));have Z:ts.length=len:=by rw[<-d'];simpa using l'.symm
     have r':(aO ts).length=len*ie.size:=by rw[gq c',Z]
     obtain⟨cells,I,k'⟩:∃cells:Array Value,cells=((ps.map (·.2)).flatMap fun v=>v.cells.toList).toArray/\(Instr.buildSlice t len ps.toArray).run P w=.ok (.slice (some ⟨w.heap.size,0,none⟩) len len) (w.alloc (.cells cells e)) :=
      ⟨_,rfl,CD hu hi hz h0 s' d' (uq ps parts 0 he p') fun v hv=>by
       obtain⟨i,i',rfl⟩:=QO hv;have j':i<ts.length:=by simpa [Z,d'] using i'
       have:=(hr i _ _ (OH j') (by simpa using OH i')).cells.1;rw[<-c' _ (OX j'),<-this];simp⟩
     have u':cells.size=len*ie.size:=by rw[I];simp only[Rm];rw[c1,r']
     let F':Nat->Nat:=fun b=>if b=w.heap.size then cells.size else F b
     have hb:OD w (w.alloc (.cells cells e)):=kA _ _ _ (OI _);have hg:=f3.grow hb F' (fun b m'=>by simp only[F'];rw[OF om]);have kp:Kept F w F' (w.alloc (.cells cells e)):=Kept.below hb fun b m'=>by simp only[F'];rw[OF om];exact OI _
     refine⟨{ M with F:=F' },_,_,k',kA _ _ _ h.size,f2.trans (.grow hb (fun b m'=>by simp only[F'];rw[OF om]) h.size),hg,.p _ _ ?_⟩
     ·have f':∀j,j<(aO ts).length->(w.alloc (.cells cells e)).cell? ⟨w.heap.size,0+j,none⟩=some (cells.getD j undef):=fun j hj=>by
       have:j<cells.size:=by omega
       rw[Pd,World.cell?_alloc_new];simp[this]
      have:=Rp.lst (F:=F') (w:=w.alloc (.cells cells e)) true ts w.heap.size 0 len ie.size (fun j=>cells.getD j undef) c' q' (fun j hj=>⟨f' j hj,by show 0+j<F' w.heap.size;have:F' w.heap.size=cells.size:=OG rfl;omega⟩)
       (fun j t J=>by
        have hj:=(List.getElem?_eq_some_iff.1 J).1;have g':j<cells.size:=by omega
        refine (c2 j t _ J ?_).kept kp;rw[show cells.getD j undef=cells[j] by simp[g'],<-Sn g'];have:cells.toList=(ps.map (·.2)).flatMap fun v=>v.cells.toList:=by rw[I]
        simp only[<-this];exact OH (jQ g')) (fun _=>Z.symm) om (by rw[aQ];have:len<=len*ie.size:=Nat.le_mul_of_pos_right _ h0;omega)
      rwa [Z]at this
   ·cases hx
  ·cases hx
 ·cases hx
end
end
section
section
variable {σ σ':Sg}
theorem un{n:Nat}(h:w.ownsRow base e k v n xs):v.ownBlock=dj v:=by
 rcases h.2 with ⟨rfl,-⟩|⟨g,cap,cur,rfl,-⟩<;>rfl
theorem vd{t:Tr}{ys:List Tr}(h:Rp F w t v)(J:rX t=some ys)(hk:∀t∈ys,t.cells.length=k) :
  ∃A c news,v=.slice A ys.length c/\Src w A ys.length k news/\(∀t∈aO ys,t.cell=true)/\(∀(j:Nat)(t:Tr)(u:Value),(aO ys)[j]?=some t->news[j]?=some u->Rp F w t u):=by
 have nil:∀A,Src w A 0 k []:=fun A=>Src.nil w A k
 cases h with
 | «at» =>
  unfold rX at J
  split at J
  ·rename_i e;cases e
  ·rename_i e;cases e;cases J;exact⟨none,0,[],rfl,nil _,by simp,by simp⟩
  ·cases J
 | nil a cap=>cases J;exact⟨a,cap,[],rfl,nil _,by simp,by simp⟩
 | lst full es A o cap k' g d' hc hg hr hf hle hm =>
  cases J
  have c':(aO ys).length=ys.length*k:=gq hk;refine⟨some ⟨A,o,none⟩,cap,(List.range (aO ys).length).map g,rfl,⟨by rw[OL,QE,c'],fun u hu=>?_,fun _=>⟨A,o,rfl,fun j u Z=>?_⟩⟩,hc,fun j t u ht hu=>?_⟩
  ·obtain⟨j,Z,rfl⟩:=List.mem_map.1 hu;have a':j<(aO ys).length:=jQ Z;exact (hr j _ (OH a')).oneCell (hc _ (OX a'))
  ·rw[OQ]at Z
   by_cases I:j<(aO ys).length
   ·rw[RL I]at Z;cases Z;exact (hg j I).1
   ·rw[PF (jQ I)]at Z;cases Z
  ·have I:=(List.getElem?_eq_some_iff.1 ht).1;rw[OQ,RL I]at hu
   cases hu
   exact hr j t ht
 | _=>cases J
theorem mG(xs ys:List Tr):aO (xs++ys)=aO xs++aO ys:=by simp[aO]
theorem Et(σ:Sg)(n:Nat)(ob:Ob):n<nx (σ.new n ob).obs:=by
 unfold Sg.new Sg.mp;simp only[lx];omega
theorem SR.rm(h:SR gl n0 M w σ S)(n:Nat):SR gl n0 M w (σ.rm n) S:=h.less (fun m x J=>by
 have I:gt (Go.Proofs.YteemngnialjaiaaGreatDoor.rm σ.obs n) m=some x:=J;rw[yD]at I
 split at I
 ·cases I
 ·exact I) h.stk rfl rfl
theorem ja(h:SR gl n0 M w σ S){n:Nat}(hN:N<=n)(h0:0<k)(ho:w'.ownsRow n0 e k v' zs.length xs)(hg:w.grownBy w' row)(I:∀g,row=some g->M.F g=0/\(n0<=g/\∃c e fz,w.heap[g]?=some (.cells c e fz))/\∀m x,m≠n->gt σ.obs m=some x->dj (M.h m)≠some g)(g':∀g,dj v'=some g->some g=row/\g<w.heap.size\/g=w.heap.size)(j':∀t∈zs,t.cells.length=k)(k':∀t∈aO zs,t.cell=true)(hr:∀(j:Nat)(t:Tr)(u:Value),(aO zs)[j]?=some t->xs[j]?=some u->Rp M.F w t u) :
  ∃M',Below n0 w w'/\Ff n0 N (nx (σ.new n (.row e k zs false)).obs) M w M' w'/\SR gl n0 M' w' (σ.new n (.row e k zs false)) S/\Rv M' w' (.ref n) v':=by
 let M':Mem:=⟨fun b=>if b<w.heap.size then M.F b else 0,fun m=>if m=n then v' else M.h m,fun m=>if m=n then k else M.k m,M.lp,M.mq,M.nl⟩
 have c':∀b,b<w.heap.size->M'.F b=M.F b:=fun b hb=>by simp only[M'];rw[OG hb]
 have kp:Kept M.F w M'.F w':=fun b j u hj he=>by
  have hb:=OV w ⟨b,j,none⟩ he;have f':some b≠row:=fun e=>by rw[(I b e.symm).1]at hj;omega
  exact⟨by rw[Pf (a:=⟨b,j,none⟩) (hg.block b hb f')];exact he,by rw[c' b hb];exact hj⟩
 have h':Below n0 w w':=⟨hg.os,hg.tape,hg.output,hg.size,fun b hb=>hg.block b (by have:=h.size;omega) (fun e=>by have:=(I b e.symm).2.1.1;omega)⟩;have Z:M'.h n=v':=OG rfl;have J:∀m,m≠n->M'.h m=M.h m/\M'.k m=M.k m:=fun m hm=>⟨OF hm,OF hm⟩
 refine⟨M',h',⟨fun b hb=>c' b (by have:=h.size;omega),kp,fun m hm=>J m om,LM.refl M,OP hN (Nat.le_of_lt (Et σ n _))⟩,?_,?_⟩
 ·have hblk:∀b,b<w.heap.size->(∀g,row=some g->b≠g)->w'.heap[b]?=w.heap[b]?:=fun b hb f'=>hg.block b hb (fun e=>f' b e.symm rfl)
  refine h.upd (κ:=V.kill n) (fun t v hv=>hv.step kp J) kp hg.size J (fun m x g hm hx a'=>?_) ?_ (fun m x g hm hx a' i'=>?_) (fun i hi=>⟨hblk _ (h.lp_lt hi).1 fun g hg=>by
   obtain⟨c,e',fz,hc⟩:=(I g hg).2.1.2;exact (h.lp_cells hi hc).1,hblk _ (h.lp_lt hi).2 fun g hg=>by
   obtain⟨c,e',fz,hc⟩:=(I g hg).2.1.2;exact (h.lp_cells hi hc).2⟩)
  ·have d':=((h.ob m x hx).lt a').1;exact⟨hg.block g d' (fun e=>(I g e.symm).2.2 m x hm hx a'),c' g d'⟩
  ·refine⟨OG rfl,h0,xs,by rw[Z];exact ho,j',k',fun j t u ht hu=>(hr j t u ht hu).kept kp,fun g a'=>?_⟩;rw[OF jS];rw[Z]at a';rcases g' g a' with ⟨e,hl⟩|e
   ·rw[c' g hl];exact (I g e.symm).1
   ·simp only[M'];rw[OF om]
  ·rw[Z]at a';rcases g' g a' with ⟨e,hl⟩|e
   ·exact (I g e.symm).2.2 m x hm hx i'
   ·have:=((h.ob m x hx).lt i').1;omega
 ·have:=Rv.ref (M:=M') (w:=w') n (by rw[Z];rcases ho.2 with ⟨e,-⟩|⟨g,cap,cur,e,-⟩<;>rw[e]<;>rfl)
  rwa [Z]at this
theorem qU{ys:List Tr}{k:Nat}(J:xs.length=(aO es).length)(h1:∀(j:Nat)(t:Tr)(u:Value),(aO es)[j]?=some t->xs[j]?=some u->Rp F w t u)(Z:∀(j:Nat)(t:Tr)(u:Value),(aO ys)[j]?=some t->news[j]?=some u->Rp F w t u):∀(j:Nat)(t:Tr)(u:Value),(aO (es++ys))[j]?=some t->(xs++news)[j]?=some u->Rp F w t u:=by
 intro j t u h hu;rw[mG]at h
 by_cases I:j<(aO es).length
 ·rw[Ph I]at h;rw[Ph om]at hu;exact h1 j t u h hu
 ·rw[Pz om]at h;rw[Pz om,J]at hu;exact Z _ t u h hu
theorem DC(h:SR gl n0 M w σ S){n:Nat}(hN:N<=n){ys:List Tr}{ty:TypeId}(ht:P.underlying t=some (.slice e))(hi:P.info? e=some i)(hz:i.zero=some z)(n':z.cells.size=i.size)(hk:k=i.size)(h0:0<i.size)(I:w.ownsRow n0 e k v es.length xs)(d':∀t∈es,t.cells.length=k)(p':∀t∈aO es,t.cell=true)(hr:∀(j:Nat)(t:Tr)(u:Value),(aO es)[j]?=some t->xs[j]?=some u->Rp M.F w t u)(hF:∀g,dj v=some g->M.F g=0)(i':∀m x g,m≠n->gt σ.obs m=some x->dj (M.h m)=some g->dj v≠some g){src:Value}(hy:Rp M.F w y src)(hl:rX y=some ys)(h':∀t∈ys,t.cells.length=i.size)(k':es.length+ys.length<=maxLen)(l':(es.length+ys.length)*i.bytes<=140737488355328) :
  ∃M' w' u,(Builtin.append_ #[t,t] ty #[v,src]).run P w=.ok u w'/\Below n0 w w'/\Ff n0 N (nx (σ.new n (.row e i.size (es++ys) false)).obs) M w M' w'/\SR gl n0 M' w' (σ.new n (.row e i.size (es++ys) false)) S/\Rv M' w' (.ref n) u:=by
 subst hk;obtain⟨A,c,news,rfl,hs,m',j'⟩:=vd hy hl h';obtain⟨v',w',f',ho,Z,a'⟩:=pB (P:=P) w n0 t ty e i z i.size i.bytes ht hi hz rfl rfl n' h0 v es.length xs I A ys.length c news hs k' l' h.size;have c':∀g,dj v=some g->g<w.heap.size/\n0<=g/\∃c e fz,w.heap[g]?=some (.cells c e fz):=fun g Z=>by
  rcases I.2 with ⟨rfl,-⟩|⟨g',cap,cur,rfl,hb,hh,-⟩
  ·cases Z
  ·cases Z;exact⟨(Array.getElem?_eq_some_iff.1 hh).1,hb,_,_,_,hh⟩
 rw[un I]at Z a';rw[un ho]at a';obtain⟨M',m1,m2,m3,m4⟩:=ja (n:=n) (N:=N) (zs:=es++ys) h hN h0 (by rw[OM];exact ho) Z (fun g Z=>⟨hF g Z,(c' g Z).2,fun m x hm hx e=>i' m x g hm hx e Z⟩)
  (fun g J=>a'.imp (fun e=>by rw[e]at J;exact⟨J.symm,(c' g J).1⟩) (fun e=>by rw[e]at J;cases J;rfl))
  (fun t ht=>(List.mem_append.1 ht).elim (d' t) (h' t)) (fun t ht=>by rw[mG]at ht;exact (List.mem_append.1 ht).elim (p' t) (m' t))
  (qU (k:=0) (by rw[gq d',I.1]) hr j')
 exact⟨M',w',v',f',m1,m2,m3,m4⟩
theorem zf(h:SR gl n0 M w σ S){n:Nat}(hN:N<=n){ys:List Tr}{ty:TypeId}(ht:P.underlying t=some (.slice e))(hi:P.info? e=some i)(hz:i.zero=some z)(q':z.cells.size=i.size)(h0:0<i.size)(hv:Rp M.F w (.lst true es) v)(g':∀t∈es,t.cells.length=i.size)(hs:Src w A ys.length i.size news)(n':∀t∈aO ys,t.cell=true)(l':∀(j:Nat)(t:Tr)(u:Value),(aO ys)[j]?=some t->news[j]?=some u->Rp M.F w t u)(f':ys≠[])(r':∀t∈ys,t.cells.length=i.size)(h':es.length+ys.length<=maxLen)(m':(es.length+ys.length)*i.bytes<=140737488355328) :
  ∃M' w' u,(Builtin.append_ #[t,t] ty #[v,.slice A ys.length c]).run P w=.ok u w'/\Below n0 w w'/\Ff n0 N (nx (σ.new n (.row e i.size (es++ys) false)).obs) M w M' w'/\SR gl n0 M' w' (σ.new n (.row e i.size (es++ys) false)) S/\Rv M' w' (.ref n) u:=by
 obtain⟨b,o,hA,p'⟩:=hs.2.2 (List.length_pos_iff.2 f');subst hA
 cases hv with
 | lst _ _ A o' cap k g hk hc hg hr hf hle hm =>
  obtain rfl:cap=es.length:=hf rfl;have a':=gq g';have s':0<ys.length:=List.length_pos_iff.2 f';have i':=run_append_grow (P:=P) w t ty e i z ht hi hz ⟨A,o',none⟩ es.length es.length ((List.range (aO es).length).map g) (by rw[OL,QE,a']) (fun j v hv=>by
    rw[OQ]at hv
    by_cases I:j<(aO es).length
    ·rw[RL I]at hv;cases hv;rw[cY];exact (hg j I).1
    ·rw[PF (jQ I)]at hv;cases hv) ⟨b,o,none⟩ ys.length c news hs.1 (fun j u hj=>by rw[cY];exact p' j u hj) om (by rw[aQ]at h';omega) (growslice_fits om m')
  have j':=grownCap_ge w (es.length+ys.length) es.length e;have k':grownCap w (es.length+ys.length) es.length e<=maxLen:=So w _ _ e h';have hlen:((List.range (aO es).length).map g++news).length=(es.length+ys.length)*i.size:=by rw[OM,OL,QE,a',hs.1,Q6]
  have c':(es++ys).length=es.length+ys.length:=OM;obtain⟨J,dX⟩:∃l,l=(List.range (aO es).length).map g:=⟨_,rfl⟩;have Z:J.length=es.length*i.size:=by rw[dX,OL,QE,a']
  rw[<-dX]at i' hlen;have d':(w.drew.alloc (.cells (J.toArray++news.toArray++Builtin.zeroCells z.cells (grownCap w (es.length+ys.length) es.length e-(es.length+ys.length))) e)).ownsRow n0 e i.size
    (.slice (some ⟨w.heap.size,0,none⟩) (es.length+ys.length) (grownCap w (es.length+ys.length) es.length e)) (es++ys).length (J++news):=by
   refine⟨by rw[c'];exact hlen,.inr ⟨w.heap.size,_,_,by rw[c'],h.size,Qd w.drew _,by rw[c'];exact j',k',?_,?_⟩⟩
   ·simp only[Array.size_append,Rm,size_zeroCells,q',Z,hs.1,<-Q6];congr 1;omega
   ·rw[c',<-hlen];simp only[Array.toList_append];exact List.take_left
  obtain⟨M',m1,m2,m3,m4⟩:=ja (n:=n) (N:=N) (zs:=es++ys) (row:=none) h hN h0 d'
   ⟨rfl,rfl,rfl,by simp,fun k hk _=>Qe w.drew _ k hk⟩ (fun g hg=>by cases hg) (fun g hg=>by cases hg;exact .inr rfl)
   (fun t ht=>(List.mem_append.1 ht).elim (g' t) (r' t)) (fun t ht=>by rw[mG]at ht;exact (List.mem_append.1 ht).elim (hc t) (n' t))
   (qU (k:=0) (by rw[Z,a']) (fun j t u ht hu=>by
    subst dX;have I:=(List.getElem?_eq_some_iff.1 ht).1;rw[OQ,RL I]at hu
    cases hu
    exact hr j t ht) l')
  exact⟨M',_,_,i',m1,m2,m3,m4⟩
theorem Lb(h:SR gl n0 M w σ S){n:Nat}(hN:N<=n){ys:List Tr}{ty:TypeId}(ht:P.underlying t=some (.slice e))(hi:P.info? e=some i)(hz:i.zero=some z)(g':z.cells.size=i.size)(h0:0<i.size)(hv:Rp M.F w (.lst true es) v)(Z:∀t∈es,t.cells.length=i.size){src:Value}(hy:Rp M.F w y src)(hl:rX y=some ys)(J:ys≠[])(I:∀t∈ys,t.cells.length=i.size)(c':es.length+ys.length<=maxLen)(d':(es.length+ys.length)*i.bytes<=140737488355328) :
  ∃M' w' u,(Builtin.append_ #[t,t] ty #[v,src]).run P w=.ok u w'/\Below n0 w w'/\Ff n0 N (nx (σ.new n (.row e i.size (es++ys) false)).obs) M w M' w'/\SR gl n0 M' w' (σ.new n (.row e i.size (es++ys) false)) S/\Rv M' w' (.ref n) u:=by
 obtain⟨A,c,news,rfl,hs,f',a'⟩:=vd hy hl I;exact zf h hN ht hi hz g' h0 hv Z hs f' a' J I c' d'
theorem N1{ty:TypeId}{src:V}(h:SR gl n0 M w σ S)(I:app P σ t dst src=some (r,σ'))(hu:Rv M w dst u)(hv:Rv M w src v) :
  ∃M' w' q,(Builtin.append_ #[t,t] ty #[u,v]).run P w=.ok q w'/\Below n0 w w'/\Ff n0 (nx σ.obs) (nx σ'.obs) M w M' w'/\SR gl n0 M' w' σ' S/\Rv M' w' r q:=by
 unfold app at I
 split at I
 ·rename_i e ht
  split at I
  ·rename_i i ys hi J
   cases hf:src.frz false σ with
   | none=>rw[hf]at J;cases J
   | some y =>
    rw[hf,OY]at J
    split at I
    ·rename_i z hz
     split at I
     ·rename_i hc
      obtain⟨c1,c2,c3⟩:=hc;have c':∀t∈ys,t.cells.length=i.size:=fun t ht=>by have:=List.all_eq_true.1 c3 t ht;simpa using this
      obtain⟨F,f1,f2,f3,f4⟩:=h.frz hv hf;simp only[]at I;have h':=Gm f1 hu
      split at I
      ·split at I
       ·rename_i hb
        cases I
        cases hu with
        | p _ _ Z =>
         cases Z
         obtain⟨M',w',q,r1,r2,r3,r4,r5⟩:=DC (ty:=ty) (n:=nm (σ.fzs src.nms)) (k:=i.size) (es:=[]) f3 (OI _) ht hi hz c1 rfl c2 (v:=.slice none 0 0) (xs:=[]) ⟨by simp,.inl ⟨rfl,rfl⟩⟩ jS jS jS (fun g hg=>by cases hg)
          (fun m x g _ _ _ e=>by cases e) f4 J c' (jQ hb.1) (jQ hb.2)
         exact⟨M',w',q,r1,r2,f2.trans r3,r4,r5⟩
       ·cases I
      ·rename_i full es _
       split at I
       ·rename_i j'
        cases I
        have:ys=[]:=jQ j';subst this;have g':=vd f4 J c';obtain⟨A,c,news,l',-⟩:=g';subst l';refine⟨{ M with F:=F },w,u,?_,OK _ _,f2,f3,h'⟩
        cases hu with
        | p _ _ Z =>
         cases Z with
         | nil a cap=>cases A<;>cases a<;>simp[Builtin.append_,Pu ht,cZ hi,Builtin.lenOf,Builtin.firstCells,loadCells,loadCellsFrom,storeCells]
         | lst full es A' o cap k g hk hc hg hr hf hle hm=>cases A<;>simp[Builtin.append_,Pu ht,cZ hi,Builtin.lenOf,Builtin.firstCells,loadCells,loadCellsFrom,storeCells,hle]
       ·split at I
        ·rename_i d'
         split at I
         ·rename_i hb
          cases I
          obtain⟨rfl,f'⟩:=d';have i':ys≠[]:=fun e=>by subst e;simp_all
          cases h' with
          | p _ _ Z =>
           obtain⟨M',w',q,r1,r2,r3,r4,r5⟩:=Lb (ty:=ty) (n:=nm (σ.fzs src.nms)) f3 (OI _) ht hi hz c1 c2 Z (fun t ht=>by have:=List.all_eq_true.1 f' t ht;simpa using this) f4 J i' c' hb.1 hb.2;exact⟨M',w',q,r1,r2,f2.trans r3,r4,r5⟩
         ·cases I
        ·cases I
      ·rename_i n
       split at I
       ·rename_i e' k es hn
        split at I
        ·rename_i m'
         split at I
         ·rename_i hb
          cases I
          obtain⟨rfl,hk⟩:=m'
          cases hu with
          | ref _ n' =>
           obtain⟨g1,g2,xs,g3,g4,g5,g6,g7⟩:=f3.ob n _ hn;obtain⟨M',w',q,r1,r2,r3,r4,r5⟩:=DC (ty:=ty) (n:=nm (σ.fzs src.nms)) (f3.rm n) (OI _) ht hi hz c1 hk c2 g3 g4 g5 g6 (fun g hg=>by have:=g7 g hg;rwa [OF jS]at this)
            (fun m x g hm I hg e=>(by
             have a':gt (rm (σ.fzs src.nms).obs n) m=some x:=I;rw[yD]at a'
             split at a'
             ·cases a'
             ·rename_i k';exact f3.apart m n x _ g (Pc k') a' hn hg e)) f4 J c' hb.1 hb.2
           exact⟨M',w',q,r1,r2,f2.trans r3,r4,r5⟩
         ·cases I
        ·cases I
       ·cases I
      ·cases I
     ·cases I
    ·cases I
  ·cases I
 ·cases I
theorem tg(h:SR gl n0 M w σ S){n m:Nat}(hn:gt σ.obs n=some (.box cs))(hm:m<=cs.length):∃vs:List Value,vs.length=m/\Rvs M w (cs.take m) vs/\∀j v,vs[j]?=some v->w.cell? ((⟨gj (M.h n),0,none⟩:Addr).add j)=some v:=by
 obtain⟨A,c,el,h1,h2,h3,h4,h5,h6⟩:=h.ob n _ hn;refine⟨c.toList.take m,by simp;omega,⟨by simp;omega,fun i t v I hv=>?_⟩,fun j v J=>?_⟩
 ·rw[Qt]at I hv
  split at I
  ·rename_i Z;rw[OG Z]at hv;exact h6 i t v I (jQ hv)
  ·cases I
 ·rw[Qt]at J
  split at J
  ·rw[cY,h1];simp only[gj,World.cell?,h4,Pd];simpa using J
  ·cases J
theorem J2{ty:TypeId}{src:V}(h:SR gl n0 M w σ S)(Z:NZ P σ t dst src=some (r,σ'))(hu:Rv M w dst u)(hv:Rv M w src v) :
  ∃M' w' q,(Builtin.append_ #[t,t] ty #[u,v]).run P w=.ok q w'/\Below n0 w w'/\Ff n0 (nx σ.obs) (nx σ'.obs) M w M' w'/\SR gl n0 M' w' σ' S/\Rv M' w' r q:=by
 unfold NZ at Z
 split at Z
 ·rename_i e n k len n' k' I f' ht
  split at Z
  ·rename_i i cs g' hi hn d'
   split at Z
   ·rename_i hc
    cases Z
    obtain⟨c0,rfl,rfl,c3,c4,c5,c6,c7⟩:=hc;obtain⟨z,hz⟩:=Option.isSome_iff_exists.1 c0
    cases hu with
    | arr _ _ _ _ cap h1 h2 _ =>
     obtain rfl:=h2 rfl
     cases hv with
     | arr _ _ _ _ a' h3 h4 _ =>
      obtain⟨J,o1,o2,o3⟩:=tg h hn c4;obtain⟨news,n1,n2,n3⟩:=tg h d' c5;have h':=run_append_grow (P:=P) w t ty e i z ht hi hz _ cap cap J o1 o3 _ I a' news n1 n3 om (by rw[aQ]at c6;omega) (growslice_fits om c7);have c':=grownCap_ge w (cap+I) cap e;have hd:SR gl n0 M w.drew σ S:=h.grow (w':=w.drew) ((OK _ _).drew) M.F (fun _ _=>rfl);have hr:Rvs M w.drew (cs.take (cap*i.size)++g'.take (I*i.size)) (J++news):=⟨(o2.append n2).1,fun j t v ht hv=>Rv.kept (w:=w) (w':=w.drew) (M:=M) (M':=M) (fun b n u hn e=>⟨e,hn⟩) rfl rfl (LM.refl M) ((o2.append n2).2 j t v ht hv)⟩;obtain⟨M',m1,m2,m3,m4,hh⟩:=tR (vs:=J.toArray++news.toArray++Builtin.zeroCells z.cells (grownCap w (cap+I) cap e-(cap+I))) hd ⟨by have:=hr.1;simp only[OM]at this;simp only[Array.size_append,Rm,OM];omega,fun j t v ht hv=>hr.2 j t v ht (by
       have hj:=(List.getElem?_eq_some_iff.1 ht).1;rw[<-hr.1]at hj;simp only[Array.toList_append]at hv
       rwa [Ph hj]at hv)⟩ e
      refine⟨M',_,_,h',((OK n0 w).drew).trans m1,(Ff.same (w:=w) (w':=w.drew) (M:=M) fun b n u hn e=>⟨e,hn⟩).trans m2,m3,?_⟩;have:=Rv.arr (M:=M') (w:=w.drew.alloc (.cells (J.toArray++news.toArray++Builtin.zeroCells z.cells (grownCap w (cap+I) cap e-(cap+I))) e)) (nm σ) i.size (cap+I) false (grownCap w (cap+I) cap e) c' (fun e=>by cases e) (So w _ _ e c6);rw[hh]at this;exact this
   ·cases Z
  ·cases Z
 ·cases Z
end
end
end Go.Proofs.YteemngnialjaiaaGreatDoor
