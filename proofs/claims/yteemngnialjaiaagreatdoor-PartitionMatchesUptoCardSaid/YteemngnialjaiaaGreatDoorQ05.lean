/- Part. -/
import Derived.Test.YteemngnialjaiaaGreatDoorQ04
set_option maxRecDepth 100000
set_option maxHeartbeats 16000000
set_option linter.unusedVariables false
set_option linter.unusedSimpArgs false
namespace Go.Proofs.YteemngnialjaiaaGreatDoor
open Go.Proofs.Tryz Go.RowKit
variable {P:Program}{t:TypeId}{cs:Array Value}{j g G:Nat}{v:Vl}{s:ByteArray}{k i:Int}{p:Prop}{a:Ac}{w W:World}{Z u1 J u:Value}
theorem sA(k:Int)(v:Vl)(w:World)(hk:cA k=true):OE 292 #[OB k,vlV v] w (OB (cC k v)):=by
 have HV:=jD (jd v);have HU:=jD (fun W=>qK k v W hk);clear hk;obtain⟨R,hR⟩:=jE (cC k v);have HR:=jD hR;rw[hR];unfold vlV at HV HU ⊢;obtain⟨z,hz⟩:=jE (cQ v);obtain⟨b,hb⟩:=jE (dZ k v);rw[hz]at HV;rw[hb]at HU;have HZ:=jD hz;have HB:=jD hb;clear hR hz hb
 by_cases J:z=0
 ·subst J
  cases b <;>
  ·go_enter func292,ntmps292;go_wp2_with fail;refine aJ fun W9 Z=>?_
   have y0:OC W9 w.heap.size 0 (OB v.kind):=jG Z;have y1:OC W9 w.heap.size 1 (OB v.num):=jG Z;have y2:OC W9 w.heap.size 2 (.string v.text):=jG Z;have I:OD w W9:=gb Z;clear Z;refine (HV.out W9).mono ?_;rintro e w1 ⟨rfl,h⟩;replace y0:=aa h y0;replace y1:=aa h y1;replace y2:=aa h y2;have a':=jD (ae I h);clear I h;go_wp2_with (go_at_call 337;refine (HU.out _).mono ?_;rintro e w2 ⟨rfl,c'⟩);go_ret;exact⟨de (by rw[<-HR.out];unfold cC;rw[HZ.out,HB.out];rfl),ae a'.out c'⟩
 ·have d':(z != 0)=true:=jQ J;have H0:=jD J;clear J;go_enter func292,ntmps292;go_wp2_with fail;refine aJ fun W9 Z=>?_
  have I:OD w W9:=gb Z;clear Z;refine (HV.out W9).mono ?_;rintro e w1 ⟨rfl,h⟩;have a':=jD (ae I h);clear I h;go_wp2;go_ret;exact⟨de (by rw[<-HR.out];unfold cC;rw[HZ.out,OG H0.out]),a'.out⟩
def fP(k:Int)(v:Vl):Vl:=if k=0 then au else v
def dR(k:Int)(a b:Vl):Vl :=
 if k=1 then ⟨0,a.num+b.num,⟨#[]⟩⟩ else if k=2 then ⟨0,min a.num b.num,⟨#[]⟩⟩ else if k=3 then ⟨0,max a.num b.num,⟨#[]⟩⟩ else if k=4 then a else if k=5 then b else au
theorem BI(k:Int)(v:Vl)(w:World):OE 296 #[OB k,vlV v] w (vlV (fP k v)):=by
 unfold fP vlV
 by_cases h:k=0
 ·subst h;rw[OG rfl];unfold au;go_enter func296,ntmps296;go_wp2;exact OJ (v:=.agg #[OB 0,OB 0,.string ⟨#[]⟩]) (by simp[results,results296,go_sem]) rfl ⟨rfl,jB⟩
 ·rw[OF h];have I:(k==0)=false:=jQ h;clear h;go_enter func296,ntmps296;go_wp2;exact OJ (v:=.agg #[OB v.kind,OB v.num,.string v.text]) (by simp[results,results296,go_sem]) rfl ⟨rfl,jB⟩
theorem JO{e:TypeId}{n:Nat}{v:Value}(W:World)(h:P.underlying t=some (.array n e))(hs:∀w,(sizeOf e).run P w=.ok 1 w)(J:∀w,(isAgg e).run P w=.ok false w)(Z:j<n)(hv:cs[j]?=some v) :
  (Instr.index t (.agg cs) (OB (j:Int))).run P W=.ok v W:=by
 have I:(0:Int)<=(j:Int)/\(j:Int)<(n:Int):=by omega
 simp[Instr.index,asIntOf,Pu h,Z,part,hs,J,hv]
theorem xG(k:Int)(a b:Vl)(w:World)(hk:cA k=true)(ha:-2305843009213693952<=a.num/\a.num<=2305843009213693952)(hb:-2305843009213693952<=b.num/\b.num<=2305843009213693952):OE 338 #[OB k,vlV a,vlV b] w (vlV (dR k a b)):=by
 have J:0<=k/\k<=5:=by simpa [cA] using hk
 have hc:k=0\/k=1\/k=2\/k=3\/k=4\/k=5:=by omega
 obtain⟨Z,a'⟩:=ha;obtain⟨d',c'⟩:=hb;have I:=jD (fun(j:Nat)(v:Value)(cs:Array Value)(hv:cs[j]?=some v)(hj:j<6)(W:World)=>JO W underlying378 Tryz.sizeOf377 Tryz.isAgg377 hj hv);clear J hk;unfold vlV;rcases hc with rfl|rfl|rfl|rfl|rfl|rfl
 ·have h:=fun W=>I.out 0 _ (#[.func (.func 358) #[] #[],.func (.func 359) #[] #[.pointer (some ⟨w.heap.size,0,none⟩),.pointer (some ⟨w.heap.size+1,0,none⟩)],.func (.func 360) #[] #[.pointer (some ⟨w.heap.size,0,none⟩),.pointer (some ⟨w.heap.size+1,0,none⟩)],.func (.func 361) #[] #[.pointer (some ⟨w.heap.size,0,none⟩),.pointer (some ⟨w.heap.size+1,0,none⟩)],.func (.func 362) #[] #[.pointer (some ⟨w.heap.size,0,none⟩)],.func (.func 363) #[] #[.pointer (some ⟨w.heap.size+1,0,none⟩)]]) rfl dc W
  simp only[RH,RI,RJ,dR]at h ⊢;go_enter func338,ntmps338;go_wp2;exact OJ (v:=.agg #[OB 0,OB 0,.string ⟨#[]⟩]) (by simp[results,results338,go_sem]) rfl ⟨rfl,jB⟩
 ·have h:=fun W=>I.out 1 _ (#[.func (.func 358) #[] #[],.func (.func 359) #[] #[.pointer (some ⟨w.heap.size,0,none⟩),.pointer (some ⟨w.heap.size+1,0,none⟩)],.func (.func 360) #[] #[.pointer (some ⟨w.heap.size,0,none⟩),.pointer (some ⟨w.heap.size+1,0,none⟩)],.func (.func 361) #[] #[.pointer (some ⟨w.heap.size,0,none⟩),.pointer (some ⟨w.heap.size+1,0,none⟩)],.func (.func 362) #[] #[.pointer (some ⟨w.heap.size,0,none⟩)],.func (.func 363) #[] #[.pointer (some ⟨w.heap.size+1,0,none⟩)]]) rfl dc W
  simp only[RH,RI,RJ,dR]at h ⊢;go_enter func338,ntmps338;go_wp2;exact OJ (v:=.agg #[OB 0,OB (a.num+b.num),.string ⟨#[]⟩]) (by simp[results,results338,go_sem]) rfl ⟨rfl,jB⟩
 ·have h:=fun W=>I.out 2 _ (#[.func (.func 358) #[] #[],.func (.func 359) #[] #[.pointer (some ⟨w.heap.size,0,none⟩),.pointer (some ⟨w.heap.size+1,0,none⟩)],.func (.func 360) #[] #[.pointer (some ⟨w.heap.size,0,none⟩),.pointer (some ⟨w.heap.size+1,0,none⟩)],.func (.func 361) #[] #[.pointer (some ⟨w.heap.size,0,none⟩),.pointer (some ⟨w.heap.size+1,0,none⟩)],.func (.func 362) #[] #[.pointer (some ⟨w.heap.size,0,none⟩)],.func (.func 363) #[] #[.pointer (some ⟨w.heap.size+1,0,none⟩)]]) rfl dc W
  simp only[RH,RI,RJ,dR]at h ⊢;go_enter func338,ntmps338;go_wp2;exact OJ (v:=.agg #[OB 0,OB (min a.num b.num),.string ⟨#[]⟩]) (by simp[results,results338,go_sem]) rfl ⟨rfl,jB⟩
 ·have h:=fun W=>I.out 3 _ (#[.func (.func 358) #[] #[],.func (.func 359) #[] #[.pointer (some ⟨w.heap.size,0,none⟩),.pointer (some ⟨w.heap.size+1,0,none⟩)],.func (.func 360) #[] #[.pointer (some ⟨w.heap.size,0,none⟩),.pointer (some ⟨w.heap.size+1,0,none⟩)],.func (.func 361) #[] #[.pointer (some ⟨w.heap.size,0,none⟩),.pointer (some ⟨w.heap.size+1,0,none⟩)],.func (.func 362) #[] #[.pointer (some ⟨w.heap.size,0,none⟩)],.func (.func 363) #[] #[.pointer (some ⟨w.heap.size+1,0,none⟩)]]) rfl dc W
  simp only[RH,RI,RJ,dR]at h ⊢;go_enter func338,ntmps338;go_wp2;exact OJ (v:=.agg #[OB 0,OB (max a.num b.num),.string ⟨#[]⟩]) (by simp[results,results338,go_sem]) rfl ⟨rfl,jB⟩
 ·have h:=fun W=>I.out 4 _ (#[.func (.func 358) #[] #[],.func (.func 359) #[] #[.pointer (some ⟨w.heap.size,0,none⟩),.pointer (some ⟨w.heap.size+1,0,none⟩)],.func (.func 360) #[] #[.pointer (some ⟨w.heap.size,0,none⟩),.pointer (some ⟨w.heap.size+1,0,none⟩)],.func (.func 361) #[] #[.pointer (some ⟨w.heap.size,0,none⟩),.pointer (some ⟨w.heap.size+1,0,none⟩)],.func (.func 362) #[] #[.pointer (some ⟨w.heap.size,0,none⟩)],.func (.func 363) #[] #[.pointer (some ⟨w.heap.size+1,0,none⟩)]]) rfl dc W
  simp only[RH,RI,RJ,dR]at h ⊢;go_enter func338,ntmps338;go_wp2;exact OJ (v:=.agg #[OB a.kind,OB a.num,.string a.text]) (by simp[results,results338,go_sem]) rfl ⟨rfl,jB⟩
 ·have h:=fun W=>I.out 5 _ (#[.func (.func 358) #[] #[],.func (.func 359) #[] #[.pointer (some ⟨w.heap.size,0,none⟩),.pointer (some ⟨w.heap.size+1,0,none⟩)],.func (.func 360) #[] #[.pointer (some ⟨w.heap.size,0,none⟩),.pointer (some ⟨w.heap.size+1,0,none⟩)],.func (.func 361) #[] #[.pointer (some ⟨w.heap.size,0,none⟩),.pointer (some ⟨w.heap.size+1,0,none⟩)],.func (.func 362) #[] #[.pointer (some ⟨w.heap.size,0,none⟩)],.func (.func 363) #[] #[.pointer (some ⟨w.heap.size+1,0,none⟩)]]) rfl dc W
  simp only[RH,RI,RJ,dR]at h ⊢;go_enter func338,ntmps338;go_wp2;exact OJ (v:=.agg #[OB b.kind,OB b.num,.string b.text]) (by simp[results,results338,go_sem]) rfl ⟨rfl,jB⟩
theorem uz(k:Int)(a b:Vl)(w:World)(ha:-2305843009213693952<=a.num/\a.num<=2305843009213693952)(hb:-2305843009213693952<=b.num/\b.num<=2305843009213693952):OE 356 #[OB k,vlV a,vlV b] w (vlV (dR k a b)):=by
 obtain⟨a',c'⟩:=ha;obtain⟨f',d'⟩:=hb;unfold vlV
 by_cases h1:k=1
 ·subst h1;simp only[dR];go_enter func356,ntmps356;go_wp2;exact OJ (v:=.agg #[OB 0,OB (a.num+b.num),.string ⟨#[]⟩]) (by simp[results,results356,go_sem]) rfl ⟨rfl,jB⟩
 ·have q1:(k==1)=false:=jQ h1
  by_cases h:k=2
  ·subst h;simp only[dR];go_enter func356,ntmps356;go_wp2;exact OJ (v:=.agg #[OB 0,OB (min a.num b.num),.string ⟨#[]⟩]) (by simp[results,results356,go_sem]) rfl ⟨rfl,jB⟩
  ·have q2:(k==2)=false:=jQ h
   by_cases Z:k=3
   ·subst Z;simp only[dR];go_enter func356,ntmps356;go_wp2;exact OJ (v:=.agg #[OB 0,OB (max a.num b.num),.string ⟨#[]⟩]) (by simp[results,results356,go_sem]) rfl ⟨rfl,jB⟩
   ·have q3:(k==3)=false:=jQ Z
    by_cases I:k=4
    ·subst I;simp only[dR];go_enter func356,ntmps356;go_wp2;exact OJ (v:=.agg #[OB a.kind,OB a.num,.string a.text]) (by simp[results,results356,go_sem]) rfl ⟨rfl,jB⟩
    ·have q4:(k==4)=false:=jQ I
     by_cases J:k=5
     ·subst J;simp only[dR];go_enter func356,ntmps356;go_wp2;exact OJ (v:=.agg #[OB b.kind,OB b.num,.string b.text]) (by simp[results,results356,go_sem]) rfl ⟨rfl,jB⟩
     ·have q5:(k==5)=false:=jQ J;unfold dR;rw[OF h1,OF h,OF Z,OF I,OF J];unfold au;clear h1 h Z I J;go_enter func356,ntmps356;go_wp2;exact OJ (v:=.agg #[OB 0,OB 0,.string ⟨#[]⟩]) (by simp[results,results356,go_sem]) rfl ⟨rfl,jB⟩
def oL(a b:Ac):Ac:=if a.count=0 then b else if b.count=0 then a else ⟨a.kind,a.count+b.count,dR a.kind a.val b.val⟩
def jv(k:Int)(a:Ac)(v:Vl):Ac:=oL a ⟨k,1,fP k v⟩
structure lR(k:Int)(a:Ac)(i:Int):Prop where
 kind:a.kind=k
 count:a.count=i
 none_:i=0->a.val=au
 k0:k=0->a.val=au
 k1:i≠0->k=1->a.val.kind=0/\a.val.text=⟨#[]⟩/\-(i*1099511627776)<=a.val.num/\a.val.num<=i*1099511627776
 more:i≠0->k≠0->k≠1->cQ a.val=0/\dZ k a.val=true
theorem GL(h:s.size=0):s=⟨#[]⟩:=by
 apply ByteArray.ext;exact Array.size_eq_zero_iff.1 h
theorem iU(h:cQ v=0)(h0:v.kind=0):v.text=⟨#[]⟩/\-1099511627776<=v.num/\v.num<=1099511627776:=by
 unfold cQ at h;rw[h0]at h;simp only[Int.lt_irrefl,false_or]at h
 (repeat' split at h)<;>first|omega|skip
 exact⟨GL om,by omega,by omega⟩
theorem CK{n:Int}(h1:-1099511627776<=n)(h:n<=1099511627776):cQ ⟨0,n,⟨#[]⟩⟩=0:=by
 unfold cQ;have hs:ByteArray.size ⟨#[]⟩=0:=rfl;simp only[hs]
 (repeat' split)<;>omega
theorem Ko(h:cC k v=0):cQ v=0/\dZ k v=true:=by
 unfold cC at h
 split at h
 ·next h1=>exact absurd h h1
 ·next h1 =>
  split at h
  ·next I=>exact⟨by omega,I⟩
  ·exact absurd h dc
theorem kW(h:dZ k v=true)(h0:k≠0)(I:k≠4)(J:k≠5):v.kind=0:=by
 unfold dZ at h;have:=Pe h;omega
theorem GS(k:Int)(h:v.kind=0):dZ k v=true:=by
 unfold dZ;exact O3 (.inl h)
theorem qh(k:Int):lR k ⟨k,0,au⟩ 0:=⟨rfl,rfl,fun _=>rfl,fun _=>rfl,fun h=>absurd rfl h,fun h=>absurd rfl h⟩
theorem uas(h:p:=by
  have I:=kW v2 dc dc dc;have Z:=kW q.2 dc dc dc;obtain⟨q1,q2,q3⟩:=iU v1 I;obtain⟨p1,p2,p3⟩:=iU q.1 Z;exact⟨by simp only[dR];exact CK om om,GS _ (by simp[dR])⟩):p:=h
theorem um(hk:cA k=true)(h:lR k a i)(hi:0<=i)(hv:cC k v=0):lR k (jv k a v) (i+1):=by
 obtain⟨v1,v2⟩:=Ko hv;have a':0<=k/\k<=5:=by simpa [cA] using hk
 have c':=h.count;have J:=h.kind;unfold jv oL
 by_cases h0:i=0
 ·rw[OG om];subst h0;refine⟨rfl,rfl,fun e=>absurd e dc,fun e=>by unfold fP;rw[OG e],fun _ e=>?_,fun _ e1 e2=>?_⟩
  ·unfold fP;rw[OF om];have I:=kW v2 om om om;obtain⟨q1,q2,q3⟩:=iU v1 I;exact⟨I,q1,by simp only;omega,by simp only;omega⟩
  ·unfold fP;rw[OF e1];exact⟨v1,v2⟩
 ·rw[OF om,OF jS];refine⟨J,by simp only;omega,fun e=>by omega,fun e=>?_,fun _ e=>?_,fun _ e1 e2=>?_⟩
  ·simp only[J,e,dR];simp
  ·have q:=h.k1 h0 e;have I:=kW v2 om om om;obtain⟨q1,q2,q3⟩:=iU v1 I;simp only[J,e,dR,fP];simp only[Ps,show ¬(1:Int)=0 by decide,Qb];exact⟨trivial,trivial,by omega,by omega⟩
  ·have q:=h.more h0 e1 e2;have hs:fP k v=v:=by unfold fP;rw[OF e1]
   simp only[J,hs];have hc:k=2\/k=3\/k=4\/k=5:=by omega
   rcases hc with rfl|rfl|rfl|rfl
   ·exact uas
   ·exact uas
   ·simpa [dR] using q
   ·simpa [dR] using And.intro v1 v2
theorem vP(hk:cA k=true)(h:lR k a i)(J:0<=i/\i<=4096):-2305843009213693952<=a.val.num/\a.val.num<=2305843009213693952:=by
 by_cases h0:i=0
 ·rw[h.none_ h0];decide
 ·by_cases h1:k=0
  ·rw[h.k0 h1];decide
  ·by_cases I:k=1
   ·have:=h.k1 h0 I;omega
   ·have:=(h.more h0 h1 I).1;unfold cQ at this
    (repeat' split at this)<;>omega
theorem N5(a:Vl)(W:World):(binOp .eql 27 (vlV a) (vlV a)).run prog W=.ok (.bool true) W:=by
 have J:=underlying3;have a3:=Tryz.isAgg3;have z3:=Tryz.sizeOf3;have I:prog.underlying 9=some .string:=kr;have a9:=Tryz.isAgg9;have z9:=Tryz.sizeOf9;have h:prog.underlying 27=some (.struct (prog.fieldsOf 27)):=kr;have hp:prog.stoodInHeld 27=false:=kr;unfold vlV;rw[run_eql_struct,show (10000:Nat)=9999+1 from rfl,RF W 9999 27 _ _ h hp];simp only[Program.fieldsOf,underlying27]
 go_simp
theorem nt(h:lR k a i)(I:a.val=au):ei a=.agg #[OB k,OB i,OB 0,OB 0,.string ⟨#[]⟩]:=by
 unfold ei;rw[h.kind,h.count,I];rfl
theorem uau(h:p:=by
  go_enter func339,ntmps339;go_wp2_with (go_at_call 291;refine (iY _ _).mono ?_;rw[HK.out];rintro e w' ⟨rfl,rfl⟩);go_ret;exact⟨rfl,ay _ _⟩):p:=h
theorem Ek(k i:Int)(a:Ac)(w:World)(hk:cA k=true)(h:lR k a i)(hi:0<=i/\i<=4096) :
  OE 339 #[ei a] w (OB 0):=by
 have HK:=jD hk;have hq:∀W,(binOp .eql 27 (.agg #[OB 0,OB 0,.string ⟨#[]⟩]) (.agg #[OB 0,OB 0,.string ⟨#[]⟩])).run prog W=.ok (.bool true) W:=fun W=>N5 ⟨0,0,⟨#[]⟩⟩ W
 obtain⟨a',d'⟩:=hi
 by_cases h0:i=0
 ·rw[nt h (h.none_ h0)];subst h0;clear a' d' hk h;exact uau
 have m':(i==0)=false:=jQ h0;have hn:¬i<0:=by omega
 have hx:¬4096<i:=by omega
 by_cases Z:k=0
 ·rw[nt h (h.k0 Z)];subst Z;clear a' d' hk h h0;exact uau
 have j':(k==0)=false:=jQ Z
 by_cases J:k=1
 ·obtain⟨q0,q1,q2,q3⟩:=h.k1 h0 J;have ha:ei a=.agg #[OB 1,OB i,OB 0,OB a.val.num,.string ⟨#[]⟩]:=by
   unfold ei;rw[h.kind,h.count,q0,q1,J]
  rw[ha];obtain⟨n,g'⟩:=jE a.val.num;rw[g']at q2 q3 ⊢;subst J;have l':IntKind.i64.wrap (i*1099511627776)=i*1099511627776:=by simp[IntKind.wrap,IntKind.bits,IntKind.signed];omega
  have k':IntKind.i64.wrap (-(i*1099511627776))=-(i*1099511627776):=by simp[IntKind.wrap,IntKind.bits,IntKind.signed];omega
  clear hk h h0 Z ha q0 q1;exact uau
 ·have i':(k==1)=false:=jQ J;obtain⟨q0,q1⟩:=h.more h0 Z J;have HV:=jD (jd a.val);have HU:=jD (fun W=>qK k a.val W hk);rw[q0]at HV;rw[q1]at HU;have ha:ei a=.agg #[OB k,OB i,OB a.val.kind,OB a.val.num,.string a.val.text]:=by
   unfold ei;rw[h.kind,h.count]
  rw[ha];unfold vlV at HV HU;clear hk h h0 Z J ha q0 q1;go_enter func339,ntmps339;go_wp2_with (go_at_call 291;refine (iY _ _).mono ?_;rw[HK.out];rintro e w' ⟨rfl,rfl⟩);refine aJ fun W9 e9=>?_
  have y0:OC W9 w.heap.size 0 (OB k):=jG e9;have y1:OC W9 w.heap.size 1 (OB i):=jG e9;have y2:OC W9 w.heap.size 2 (OB a.val.kind):=jG e9;have y3:OC W9 w.heap.size 3 (OB a.val.num):=jG e9;have y4:OC W9 w.heap.size 4 (.string a.val.text):=jG e9;have c':OD w W9:=gb e9;clear e9;refine (HV.out W9).mono ?_;rintro e w1 ⟨rfl,I⟩;replace y0:=aa I y0;replace y1:=aa I y1;replace y2:=aa I y2;replace y3:=aa I y3;replace y4:=aa I y4;have f':=jD (ae c' I);clear c' I;go_wp2_with (go_at_call 337;refine (HU.out _).mono ?_;rintro e w2 ⟨rfl,h'⟩);go_ret;exact⟨rfl,ae f'.out h'⟩
theorem uav(h:p:=by
  go_enter func354,ntmps354;go_wp2_with (go_at_call 328;refine (gW _ _).mono ?_;rw[HK.out];rintro e w' ⟨rfl,rfl⟩);go_ret;exact⟨rfl,ay _ _⟩):p:=h
theorem rC(k i:Int)(a:Ac)(w:World)(hk:cA k=true)(h:lR k a i)(hi:0<=i/\i<=4096) :
  OE 354 #[ei a] w (OB 0):=by
 have HK:=jD hk;have hq:∀W,(binOp .neq 27 (.agg #[OB 0,OB 0,.string ⟨#[]⟩]) (.agg #[OB 0,OB 0,.string ⟨#[]⟩])).run prog W=.ok (.bool false) W:=fun W=>MR ⟨0,0,⟨#[]⟩⟩ W
 obtain⟨a',d'⟩:=hi
 by_cases h0:i=0
 ·rw[nt h (h.none_ h0)];subst h0;clear a' d' hk h;exact uav
 have m':(i==0)=false:=jQ h0;have hn:¬i<0:=by omega
 have hx:¬4096<i:=by omega
 by_cases Z:k=0
 ·rw[nt h (h.k0 Z)];subst Z;clear a' d' hk h h0;exact uav
 have j':(k==0)=false:=jQ Z
 by_cases J:k=1
 ·obtain⟨q0,q1,q2,q3⟩:=h.k1 h0 J;have ha:ei a=.agg #[OB 1,OB i,OB 0,OB a.val.num,.string ⟨#[]⟩]:=by
   unfold ei;rw[h.kind,h.count,q0,q1,J]
  rw[ha];obtain⟨n,g'⟩:=jE a.val.num;rw[g']at q2 q3 ⊢;subst J;have l':IntKind.i64.wrap (i*1099511627776)=i*1099511627776:=by simp[IntKind.wrap,IntKind.bits,IntKind.signed];omega
  have k':IntKind.i64.wrap (-(i*1099511627776))=-(i*1099511627776):=by simp[IntKind.wrap,IntKind.bits,IntKind.signed];omega
  clear hk h h0 Z ha q0 q1;exact uav
 ·have i':(k==1)=false:=jQ J;obtain⟨q0,q1⟩:=h.more h0 Z J;have HV:=jD (jO a.val);have HU:=jD (fun W=>qG k a.val W);rw[q0]at HV;rw[q1]at HU;have ha:ei a=.agg #[OB k,OB i,OB a.val.kind,OB a.val.num,.string a.val.text]:=by
   unfold ei;rw[h.kind,h.count]
  rw[ha];unfold vlV at HV HU;clear hk h h0 Z J ha q0 q1;go_enter func354,ntmps354;go_wp2_with (go_at_call 328;refine (gW _ _).mono ?_;rw[HK.out];rintro e w' ⟨rfl,rfl⟩);refine aJ fun W9 e9=>?_
  have y0:OC W9 w.heap.size 0 (OB k):=jG e9;have y1:OC W9 w.heap.size 1 (OB i):=jG e9;have y2:OC W9 w.heap.size 2 (OB a.val.kind):=jG e9;have y3:OC W9 w.heap.size 3 (OB a.val.num):=jG e9;have y4:OC W9 w.heap.size 4 (.string a.val.text):=jG e9;have c':OD w W9:=gb e9;clear e9;refine (HV.out W9).mono ?_;rintro e w1 ⟨rfl,I⟩;replace y0:=aa I y0;replace y1:=aa I y1;replace y2:=aa I y2;replace y3:=aa I y3;replace y4:=aa I y4;have f':=jD (ae c' I);clear c' I;go_wp2_with (go_at_call 327;refine (HU.out _).mono ?_;rintro e w2 ⟨rfl,h'⟩);go_ret;exact⟨rfl,ae f'.out h'⟩
def qB(k i:Int)(a:Ac)(o:Vl):Vl × Int :=
 if cC k o≠0 then (au,cC k o) else if k=0 then (⟨0,i,⟨#[]⟩⟩,0) else if i=0/\k≠1 then (o,0) else (a.val,0)
theorem bF(h:w.heap[g]?=some (.cells [Z,u1,J].toArray t (0,0)))(a0 I a2:Value) :
  (((w.setCell ⟨g,0,none⟩ a0).setCell ⟨g,1,none⟩ I).setCell ⟨g,2,none⟩ a2).heap[g]?=some (.cells [a0,I,a2].toArray t (0,0)) :=
 dV (dV (dV h 0 a0) 1 I) 2 a2
theorem uay(h:p:=by
  have HQ:=jD (bF J.out (OB a.val.kind) (OB a.val.num) (.string a.val.text));have a':=jD (aj (aj (aj d'.out (b:=w.heap.size+2) (i:=0) om (OB a.val.kind)) (b:=w.heap.size+2) (i:=1) om (OB a.val.num)) (b:=w.heap.size+2) (i:=2) om (.string a.val.text));go_wp2_with fail;have r0:=ab HQ.out 0;have r1:=ab HQ.out 1;have r2:=ab HQ.out 2;exact OJ (v:=.tuple #[.agg #[OB a.val.kind,OB a.val.num,.string a.val.text],OB 0]) (by simp[results,results297,go_sem,r0,r1,r2]) rfl ⟨rfl,a'.out⟩):p:=h
theorem AB(k i:Int)(a:Ac)(o:Vl)(w:World)(hk:cA k=true)(h:lR k a i)(hi:0<=i/\i<=4096) :
  OE 297 #[ei a,vlV o] w (.tuple #[vlV (qB k i a o).1,OB (qB k i a o).2]):=by
 have ha:ei a=.agg #[OB k,OB i,OB a.val.kind,OB a.val.num,.string a.val.text]:=by
  unfold ei;rw[h.kind,h.count]
 have l':=jD (fun W=>Ek k i a W hk h hi);have g':=jD (fun W=>sA k o W hk);obtain⟨er,h'⟩:=jE (cC k o);rw[h']at g';obtain⟨⟨RV,re⟩,hR⟩:∃r,qB k i a o=r:=⟨_,rfl⟩;have HR:Hid ((if er≠0 then (au,er) else if k=0 then (⟨0,i,⟨#[]⟩⟩,0) else if i=0/\k≠1 then (o,0) else (a.val,0))=(RV,re)):=jD (by rw[<-hR,<-h'];rfl);rw[hR];clear hR;rw[ha]at l' ⊢;obtain⟨s',u'⟩:=hi;unfold vlV at g' ⊢;clear h' hk h ha;go_enter func297,ntmps297;go_wp2_with fail;refine aJ fun W9 e9=>?_
 have x0:OC W9 w.heap.size 0 (OB k):=jG e9;have x1:OC W9 w.heap.size 1 (OB i):=jG e9;have x2:OC W9 w.heap.size 2 (OB a.val.kind):=jG e9;have x3:OC W9 w.heap.size 3 (OB a.val.num):=jG e9;have x4:OC W9 w.heap.size 4 (.string a.val.text):=jG e9;have y0:OC W9 (w.heap.size+1) 0 (OB o.kind):=jG e9;have y1:OC W9 (w.heap.size+1) 1 (OB o.num):=jG e9;have y2:OC W9 (w.heap.size+1) 2 (.string o.text):=jG e9;have hr:W9.heap[w.heap.size+2]?=some (.cells [.int .i64 0,.int .i64 0,.string ⟨#[]⟩].toArray 27 (0,0)):=by rw[e9];exact ax _ _ _ jS
 have k':OD w W9:=gb e9;clear e9;refine (l'.out W9).mono ?_;rintro e w1 ⟨rfl,Z⟩;replace x0:=aa Z x0;replace x1:=aa Z x1;replace x2:=aa Z x2;replace x3:=aa Z x3;replace x4:=aa Z x4;replace y0:=aa Z y0;replace y1:=aa Z y1;replace y2:=aa Z y2;have p':=(Z.block _ (aX hr)).trans hr;have n':=jD (ae k' Z);have j':=jD p';clear k' Z hr p';go_wp2_with fail;refine (g'.out _).mono ?_;rintro e w2 ⟨rfl,I⟩;replace x0:=aa I x0;replace x1:=aa I x1;replace x2:=aa I x2;replace x3:=aa I x3;replace x4:=aa I x4;replace y0:=aa I y0;replace y1:=aa I y1;replace y2:=aa I y2;have J:=jD ((I.block _ (aX j'.out)).trans j'.out);have d':=jD (ae n'.out I);clear I j' n';have z0:w2.cell? ⟨w.heap.size+2,0,none⟩=some (OB 0):=by rw[ab J.out];rfl
 have z1:w2.cell? ⟨w.heap.size+2,1,none⟩=some (OB 0):=by rw[ab J.out];rfl
 have z2:w2.cell? ⟨w.heap.size+2,2,none⟩=some (.string ⟨#[]⟩):=by rw[ab J.out];rfl
 have f0:=af J.out 0;have f1:=af J.out 1;have f2:=af J.out 2
 by_cases h0:er=0
 case neg =>
  obtain⟨e1,e2⟩:(⟨0,0,⟨#[]⟩⟩:Vl)=RV/\er=re:=by have h:=HR.out;rw[OG h0]at h;injection h with h1 h2;exact⟨h1,h2⟩
  subst e1 e2;have x':(er != 0)=true:=jQ h0;clear h0;have HQ:=jD (bF J.out (OB 0) (OB 0) (.string ⟨#[]⟩));have a':=jD (aj (aj (aj d'.out (b:=w.heap.size+2) (i:=0) om (OB 0)) (b:=w.heap.size+2) (i:=1) om (OB 0)) (b:=w.heap.size+2) (i:=2) om (.string ⟨#[]⟩));go_wp2_with fail;have r0:=ab HQ.out 0;have r1:=ab HQ.out 1;have r2:=ab HQ.out 2;exact OJ (v:=.tuple #[.agg #[OB 0,OB 0,.string ⟨#[]⟩],OB er]) (by simp[results,results297,go_sem,r0,r1,r2]) rfl ⟨rfl,a'.out⟩
 have m':Hid ((if k=0 then (⟨0,i,⟨#[]⟩⟩,0) else if i=0/\k≠1 then (o,0) else (a.val,0))=(RV,re)):=jD (by have h:=HR.out;rwa [OF (jQ h0)]at h);subst h0
 by_cases c':k=0
 ·obtain⟨e1,e2⟩:(⟨0,i,⟨#[]⟩⟩:Vl)=RV/\0=re:=by have h:=m'.out;rw[OG c']at h;injection h with h1 h2;exact⟨h1,h2⟩
  subst e1 e2;subst c';have HQ:=jD (bF J.out (OB 0) (OB i) (.string ⟨#[]⟩));have a':=jD (aj (aj (aj d'.out (b:=w.heap.size+2) (i:=0) om (OB 0)) (b:=w.heap.size+2) (i:=1) om (OB i)) (b:=w.heap.size+2) (i:=2) om (.string ⟨#[]⟩));go_wp2_with fail;have r0:=ab HQ.out 0;have r1:=ab HQ.out 1;have r2:=ab HQ.out 2;exact OJ (v:=.tuple #[.agg #[OB 0,OB i,.string ⟨#[]⟩],OB 0]) (by simp[results,results297,go_sem,r0,r1,r2]) rfl ⟨rfl,a'.out⟩
 have i':Hid ((if i=0/\k≠1 then (o,0) else (a.val,0))=(RV,re)):=jD (by have h:=m'.out;rwa [OF c']at h);have r':(k==0)=false:=jQ c'
 by_cases hc:i=0
 ·subst hc
  by_cases f':k=1
  ·subst f';obtain⟨e1,e2⟩:a.val=RV/\0=re:=by have h:=i'.out;rw[OF jS]at h;injection h with h1 h2;exact⟨h1,h2⟩
   subst e1 e2;clear c';exact uay
  ·have q':(k != 1)=true:=jQ f';obtain⟨e1,e2⟩:o=RV/\0=re:=by have h:=i'.out;rw[OG ⟨rfl,f'⟩]at h;injection h with h1 h2;exact⟨h1,h2⟩
   subst e1 e2;clear c' f';have HQ:=jD (bF J.out (OB o.kind) (OB o.num) (.string o.text));have a':=jD (aj (aj (aj d'.out (b:=w.heap.size+2) (i:=0) om (OB o.kind)) (b:=w.heap.size+2) (i:=1) om (OB o.num)) (b:=w.heap.size+2) (i:=2) om (.string o.text));go_wp2_with fail;have r0:=ab HQ.out 0;have r1:=ab HQ.out 1;have r2:=ab HQ.out 2;exact OJ (v:=.tuple #[.agg #[OB o.kind,OB o.num,.string o.text],OB 0]) (by simp[results,results297,go_sem,r0,r1,r2]) rfl ⟨rfl,a'.out⟩
 ·have t':(i==0)=false:=jQ hc;obtain⟨e1,e2⟩:a.val=RV/\0=re:=by have h:=i'.out;rw[OF (fun e=>hc e.1)]at h;injection h with h1 h2;exact⟨h1,h2⟩
  subst e1 e2;clear c' hc;exact uay
theorem uaz(h:p:=by
  have HQ:=jD (bF J.out (OB a.val.kind) (OB a.val.num) (.string a.val.text));have a':=jD (aj (aj (aj d'.out (b:=w.heap.size+2) (i:=0) om (OB a.val.kind)) (b:=w.heap.size+2) (i:=1) om (OB a.val.num)) (b:=w.heap.size+2) (i:=2) om (.string a.val.text));go_wp2_with fail;have r0:=ab HQ.out 0;have r1:=ab HQ.out 1;have r2:=ab HQ.out 2;exact OJ (v:=.tuple #[.agg #[OB a.val.kind,OB a.val.num,.string a.val.text],OB 0]) (by simp[results,results330,go_sem,r0,r1,r2]) rfl ⟨rfl,a'.out⟩):p:=h
theorem zX(k i:Int)(a:Ac)(o:Vl)(w:World)(hk:cA k=true)(h:lR k a i)(hi:0<=i/\i<=4096) :
  OE 330 #[ei a,vlV o] w (.tuple #[vlV (qB k i a o).1,OB (qB k i a o).2]):=by
 have ha:ei a=.agg #[OB k,OB i,OB a.val.kind,OB a.val.num,.string a.val.text]:=by
  unfold ei;rw[h.kind,h.count]
 have l':=jD (fun W=>rC k i a W hk h hi);have g':=jD (fun W=>rb k o W);obtain⟨er,h'⟩:=jE (cC k o);rw[h']at g';obtain⟨⟨RV,re⟩,hR⟩:∃r,qB k i a o=r:=⟨_,rfl⟩;have HR:Hid ((if er≠0 then (au,er) else if k=0 then (⟨0,i,⟨#[]⟩⟩,0) else if i=0/\k≠1 then (o,0) else (a.val,0))=(RV,re)):=jD (by rw[<-hR,<-h'];rfl);rw[hR];clear hR;rw[ha]at l' ⊢;obtain⟨s',u'⟩:=hi;unfold vlV at g' ⊢;clear h' hk h ha;go_enter func330,ntmps330;go_wp2_with fail;refine aJ fun W9 e9=>?_
 have x0:OC W9 w.heap.size 0 (OB k):=jG e9;have x1:OC W9 w.heap.size 1 (OB i):=jG e9;have x2:OC W9 w.heap.size 2 (OB a.val.kind):=jG e9;have x3:OC W9 w.heap.size 3 (OB a.val.num):=jG e9;have x4:OC W9 w.heap.size 4 (.string a.val.text):=jG e9;have y0:OC W9 (w.heap.size+1) 0 (OB o.kind):=jG e9;have y1:OC W9 (w.heap.size+1) 1 (OB o.num):=jG e9;have y2:OC W9 (w.heap.size+1) 2 (.string o.text):=jG e9;have hr:W9.heap[w.heap.size+2]?=some (.cells [.int .i64 0,.int .i64 0,.string ⟨#[]⟩].toArray 27 (0,0)):=by rw[e9];exact ax _ _ _ jS
 have k':OD w W9:=gb e9;clear e9;refine (l'.out W9).mono ?_;rintro e w1 ⟨rfl,Z⟩;replace x0:=aa Z x0;replace x1:=aa Z x1;replace x2:=aa Z x2;replace x3:=aa Z x3;replace x4:=aa Z x4;replace y0:=aa Z y0;replace y1:=aa Z y1;replace y2:=aa Z y2;have p':=(Z.block _ (aX hr)).trans hr;have n':=jD (ae k' Z);have j':=jD p';clear k' Z hr p';go_wp2_with fail;refine (g'.out _).mono ?_;rintro e w2 ⟨rfl,I⟩;replace x0:=aa I x0;replace x1:=aa I x1;replace x2:=aa I x2;replace x3:=aa I x3;replace x4:=aa I x4;replace y0:=aa I y0;replace y1:=aa I y1;replace y2:=aa I y2;have J:=jD ((I.block _ (aX j'.out)).trans j'.out);have d':=jD (ae n'.out I);clear I j' n';have z0:w2.cell? ⟨w.heap.size+2,0,none⟩=some (OB 0):=by rw[ab J.out];rfl
 have z1:w2.cell? ⟨w.heap.size+2,1,none⟩=some (OB 0):=by rw[ab J.out];rfl
 have z2:w2.cell? ⟨w.heap.size+2,2,none⟩=some (.string ⟨#[]⟩):=by rw[ab J.out];rfl
 have f0:=af J.out 0;have f1:=af J.out 1;have f2:=af J.out 2
 by_cases h0:er=0
 case neg =>
  obtain⟨e1,e2⟩:(⟨0,0,⟨#[]⟩⟩:Vl)=RV/\er=re:=by have h:=HR.out;rw[OG h0]at h;injection h with h1 h2;exact⟨h1,h2⟩
  subst e1 e2;have x':(er != 0)=true:=jQ h0;clear h0;have HQ:=jD (bF J.out (OB 0) (OB 0) (.string ⟨#[]⟩));have a':=jD (aj (aj (aj d'.out (b:=w.heap.size+2) (i:=0) om (OB 0)) (b:=w.heap.size+2) (i:=1) om (OB 0)) (b:=w.heap.size+2) (i:=2) om (.string ⟨#[]⟩));go_wp2_with fail;have r0:=ab HQ.out 0;have r1:=ab HQ.out 1;have r2:=ab HQ.out 2;exact OJ (v:=.tuple #[.agg #[OB 0,OB 0,.string ⟨#[]⟩],OB er]) (by simp[results,results330,go_sem,r0,r1,r2]) rfl ⟨rfl,a'.out⟩
 have m':Hid ((if k=0 then (⟨0,i,⟨#[]⟩⟩,0) else if i=0/\k≠1 then (o,0) else (a.val,0))=(RV,re)):=jD (by have h:=HR.out;rwa [OF (jQ h0)]at h);subst h0
 by_cases c':k=0
 ·obtain⟨e1,e2⟩:(⟨0,i,⟨#[]⟩⟩:Vl)=RV/\0=re:=by have h:=m'.out;rw[OG c']at h;injection h with h1 h2;exact⟨h1,h2⟩
  subst e1 e2;subst c';have HQ:=jD (bF J.out (OB 0) (OB i) (.string ⟨#[]⟩));have a':=jD (aj (aj (aj d'.out (b:=w.heap.size+2) (i:=0) om (OB 0)) (b:=w.heap.size+2) (i:=1) om (OB i)) (b:=w.heap.size+2) (i:=2) om (.string ⟨#[]⟩));go_wp2_with fail;have r0:=ab HQ.out 0;have r1:=ab HQ.out 1;have r2:=ab HQ.out 2;exact OJ (v:=.tuple #[.agg #[OB 0,OB i,.string ⟨#[]⟩],OB 0]) (by simp[results,results330,go_sem,r0,r1,r2]) rfl ⟨rfl,a'.out⟩
 have i':Hid ((if i=0/\k≠1 then (o,0) else (a.val,0))=(RV,re)):=jD (by have h:=m'.out;rwa [OF c']at h);have r':(k==0)=false:=jQ c'
 by_cases hc:i=0
 ·subst hc
  by_cases f':k=1
  ·subst f';obtain⟨e1,e2⟩:a.val=RV/\0=re:=by have h:=i'.out;rw[OF jS]at h;injection h with h1 h2;exact⟨h1,h2⟩
   subst e1 e2;clear c';exact uaz
  ·have q':(k != 1)=true:=jQ f';obtain⟨e1,e2⟩:o=RV/\0=re:=by have h:=i'.out;rw[OG ⟨rfl,f'⟩]at h;injection h with h1 h2;exact⟨h1,h2⟩
   subst e1 e2;clear c' f';have HQ:=jD (bF J.out (OB o.kind) (OB o.num) (.string o.text));have a':=jD (aj (aj (aj d'.out (b:=w.heap.size+2) (i:=0) om (OB o.kind)) (b:=w.heap.size+2) (i:=1) om (OB o.num)) (b:=w.heap.size+2) (i:=2) om (.string o.text));go_wp2_with fail;have r0:=ab HQ.out 0;have r1:=ab HQ.out 1;have r2:=ab HQ.out 2;exact OJ (v:=.tuple #[.agg #[OB o.kind,OB o.num,.string o.text],OB 0]) (by simp[results,results330,go_sem,r0,r1,r2]) rfl ⟨rfl,a'.out⟩
 ·have t':(i==0)=false:=jQ hc;obtain⟨e1,e2⟩:a.val=RV/\0=re:=by have h:=i'.out;rw[OF (fun e=>hc e.1)]at h;injection h with h1 h2;exact⟨h1,h2⟩
  subst e1 e2;clear c' hc;exact uaz
def AccIn(W:World)(G:Nat):Prop:=∃v0 v1 v2 v3 v4,W.heap[G]?=some (.cells [v0,v1,v2,v3,v4].toArray 335 (0,0))
theorem AccIn.mk{v0 v1 v2 v3 v4:Value}(h:W.heap[G]?=some (.cells [v0,v1,v2,v3,v4].toArray 335 (0,0))):AccIn W G:=⟨_,_,_,_,_,h⟩
theorem AccIn.bel{W':World}(h:AccIn W G)(I:OD W W'):AccIn W' G:=by
 obtain⟨v0,v1,v2,v3,v4,h⟩:=h;exact⟨_,_,_,_,_,(I.block G (aX h)).trans h⟩
theorem tJ{b p:Nat}(I:b≠g)(a0 J a2 a3 a4:Value)(h:w.cell? ⟨b,p,none⟩=some u):(((((w.setCell ⟨g,0,none⟩ a0).setCell ⟨g,1,none⟩ J).setCell ⟨g,2,none⟩ a2).setCell ⟨g,3,none⟩ a3).setCell ⟨g,4,none⟩ a4).cell? ⟨b,p,none⟩=some u:=by
 go_simp
theorem cV{u0 u4:Value}(h:w.heap[g]?=some (.cells [u0,u1,Z,J,u4].toArray t (0,0)))(a0 I a2 a3 a4:Value) :
  (((((w.setCell ⟨g,0,none⟩ a0).setCell ⟨g,1,none⟩ I).setCell ⟨g,2,none⟩ a2).setCell ⟨g,3,none⟩ a3).setCell ⟨g,4,none⟩ a4).heap[g]?=some (.cells [a0,I,a2,a3,a4].toArray t (0,0)) :=
 dV (dV (dV (dV (dV h 0 a0) 1 I) 2 a2) 3 a3) 4 a4
theorem BS(a b:Ac)(w:World)(hk:cA a.kind=true)(i':0<=a.count/\a.count<=100000)(m':0<=b.count/\b.count<=100000)(ha:-2305843009213693952<=a.val.num/\a.val.num<=2305843009213693952)(hb:-2305843009213693952<=b.val.num/\b.val.num<=2305843009213693952) :
  OE 295 #[ei a,ei b] w (ei (oL a b)):=by
 have f':=jD (fun W=>xG a.kind a.val b.val W hk ha hb);unfold oL
 by_cases h0:a.count=0
 ·rw[OG h0];have l':(a.count==0)=true:=jQ h0;clear h0;unfold ei;go_enter func295,ntmps295;go_wp2;exact OJ (v:=.agg #[OB b.kind,OB b.count,OB b.val.kind,OB b.val.num,.string b.val.text]) (by simp[results,results295,go_sem]) rfl ⟨rfl,jB⟩
 rw[OF h0];have l':(a.count==0)=false:=jQ h0;clear h0
 by_cases h1:b.count=0
 ·rw[OG h1];have p':(b.count==0)=true:=jQ h1;clear h1;unfold ei;go_enter func295,ntmps295;go_wp2;exact OJ (v:=.agg #[OB a.kind,OB a.count,OB a.val.kind,OB a.val.num,.string a.val.text]) (by simp[results,results295,go_sem]) rfl ⟨rfl,jB⟩
 rw[OF h1];have p':(b.count==0)=false:=jQ h1;obtain⟨r',s'⟩:=i';obtain⟨u',t'⟩:=m';have hw:IntKind.i64.wrap (a.count+b.count)=a.count+b.count:=by simp[IntKind.wrap,IntKind.bits,IntKind.signed];omega
 obtain⟨C,hC⟩:=jE (dR a.kind a.val b.val);rw[hC]at f' ⊢;unfold vlV at f';clear h1 hC hk ha hb;unfold ei;go_enter func295,ntmps295;go_wp2_with fail;refine bV fun w1 e1=>?_
 have x0:OC w1 w.heap.size 0 (OB a.kind):=jG e1;have x1:OC w1 w.heap.size 1 (OB a.count):=jG e1;have x2:OC w1 w.heap.size 2 (OB a.val.kind):=jG e1;have x3:OC w1 w.heap.size 3 (OB a.val.num):=jG e1;have x4:OC w1 w.heap.size 4 (.string a.val.text):=jG e1;have y0:OC w1 (w.heap.size+1) 0 (OB b.kind):=jG e1;have y1:OC w1 (w.heap.size+1) 1 (OB b.count):=jG e1;have y2:OC w1 (w.heap.size+1) 2 (OB b.val.kind):=jG e1;have y3:OC w1 (w.heap.size+1) 3 (OB b.val.num):=jG e1;have y4:OC w1 (w.heap.size+1) 4 (.string b.val.text):=jG e1;have hr:w1.heap[w.heap.size+2]?=some (.cells [.int .i64 0,.int .i64 0,.int .i64 0,.int .i64 0,.string ⟨#[]⟩].toArray 335 (0,0)):=by rw[e1];exact ax _ _ _ jS
 have h':OD w w1:=gb e1;obtain⟨G,hG⟩:=jF (w.heap.size+2);have d':w.heap.size<=G:=by omega
 have k':G<w1.heap.size:=by rw[e1,hG];simp
 have c':w.heap.size≠G:=by omega
 have Z:w.heap.size+1≠G:=by omega
 clear e1;rw[show w.heap.size+1+1=w.heap.size+2 from rfl];rw[<-hG]at hr ⊢;have j':=jD h';have q':=jD hr;clear h' hr hG k';refine PM ?_;refine PQ (S:=fun W=>OD w W/\OC W w.heap.size 0 (OB a.kind)/\OC W w.heap.size 1 (OB a.count)/\OC W w.heap.size 2 (OB a.val.kind)/\OC W w.heap.size 3 (OB a.val.num)/\OC W w.heap.size 4 (.string a.val.text)/\OC W (w.heap.size+1) 0 (OB b.kind)/\OC W (w.heap.size+1) 1 (OB b.count)/\OC W (w.heap.size+1) 2 (OB b.val.kind)/\OC W (w.heap.size+1) 3 (OB b.val.num)/\OC W (w.heap.size+1) 4 (.string b.val.text)/\AccIn W G) kr (⟨j'.out.drew,x0,x1,x2,x3,x4,y0,y1,y2,y3,y4,AccIn.mk q'.out⟩) (fun I=>?_);generalize w1.drew=wD at I ⊢;refine tkH [0,1,2,3,4,5,6,7,8,9,10,11,12] ?_;refine nxH 13 (fun K hK=>?_)
 focus (go_simp;go_at_call 338;refine (f'.out _).mono ?_;rintro e w5 ⟨rfl,J⟩)
 refine hK.out _ _ (⟨ae I.1 J,aa J I.2.1,aa J I.2.2.1,aa J I.2.2.2.1,aa J I.2.2.2.2.1,aa J I.2.2.2.2.2.1,aa J I.2.2.2.2.2.2.1,aa J I.2.2.2.2.2.2.2.1,aa J I.2.2.2.2.2.2.2.2.1,aa J I.2.2.2.2.2.2.2.2.2.1,aa J I.2.2.2.2.2.2.2.2.2.2.1,(I.2.2.2.2.2.2.2.2.2.2.2).bel J⟩) (fun I=>?_);clear hK K;refine tkH [14] ?_;refine nxH 15 (fun K hK=>?_);obtain⟨v0,v1,v2,v3,v4,rr⟩:=I.2.2.2.2.2.2.2.2.2.2.2;have z0:w5.cell? ⟨G,0,none⟩=some v0:=by rw[ab rr];rfl
 have z1:w5.cell? ⟨G,1,none⟩=some v1:=by rw[ab rr];rfl
 have z2:w5.cell? ⟨G,2,none⟩=some v2:=by rw[ab rr];rfl
 have z3:w5.cell? ⟨G,3,none⟩=some v3:=by rw[ab rr];rfl
 have z4:w5.cell? ⟨G,4,none⟩=some v4:=by rw[ab rr];rfl
 have f0:=af rr 0;have f1:=af rr 1;have f2:=af rr 2;have f3:=af rr 3;have f4:=af rr 4;have HQ:=jD (cV rr (OB a.kind) (OB (a.count+b.count)) (OB C.kind) (OB C.num) (.string C.text));have g':=jD (aj (aj (aj (aj (aj I.1 (i:=0) d' (OB a.kind)) (i:=1) d' (OB (a.count+b.count))) (i:=2) d' (OB C.kind)) (i:=3) d' (OB C.num)) (i:=4) d' (.string C.text));have a':=jD (fun(bk:Nat)(p:Nat)(u:Value)(n':bk≠G)(h:w5.cell? ⟨bk,p,none⟩=some u)=>tJ n' (OB a.kind) (OB (a.count+b.count)) (OB C.kind) (OB C.num) (.string C.text) h);clear rr
 go_simp
 refine hK.out _ _ (⟨g'.out,a'.out _ _ _ (by first|exact c'|exact Z) I.2.1,a'.out _ _ _ (by first|exact c'|exact Z) I.2.2.1,a'.out _ _ _ (by first|exact c'|exact Z) I.2.2.2.1,a'.out _ _ _ (by first|exact c'|exact Z) I.2.2.2.2.1,a'.out _ _ _ (by first|exact c'|exact Z) I.2.2.2.2.2.1,a'.out _ _ _ (by first|exact c'|exact Z) I.2.2.2.2.2.2.1,a'.out _ _ _ (by first|exact c'|exact Z) I.2.2.2.2.2.2.2.1,a'.out _ _ _ (by first|exact c'|exact Z) I.2.2.2.2.2.2.2.2.1,a'.out _ _ _ (by first|exact c'|exact Z) I.2.2.2.2.2.2.2.2.2.1,a'.out _ _ _ (by first|exact c'|exact Z) I.2.2.2.2.2.2.2.2.2.2.1,AccIn.mk HQ.out⟩) (fun I=>?_);clear hK K;refine dn ?_;go_wp2_with fail;have q0:=ab HQ.out 0;have q1:=ab HQ.out 1;have q2:=ab HQ.out 2;have q3:=ab HQ.out 3;have q4:=ab HQ.out 4;exact OJ (v:=.agg #[OB a.kind,OB (a.count+b.count),OB C.kind,OB C.num,.string C.text]) (by simp[results,results295,go_sem,q0,q1,q2,q3,q4]) rfl ⟨rfl,g'.out⟩
end Go.Proofs.YteemngnialjaiaaGreatDoor
